/- An eighth of the bytes: one of a kind has another sum than two. -/
import Derived.Test.YtejhcdjfcopphaaDoorShaPure2
set_option maxRecDepth 100000
namespace Go.Sx
theorem two3_0 : ∀ c, c < 8 → shaP [((96 + c : Nat) : Int)] ≠ shaP [((96 + c : Nat) : Int), ((96 + c : Nat) : Int)] := by decide +kernel
theorem two3_1 : ∀ c, c < 8 → shaP [((104 + c : Nat) : Int)] ≠ shaP [((104 + c : Nat) : Int), ((104 + c : Nat) : Int)] := by decide +kernel
theorem two3_2 : ∀ c, c < 8 → shaP [((112 + c : Nat) : Int)] ≠ shaP [((112 + c : Nat) : Int), ((112 + c : Nat) : Int)] := by decide +kernel
theorem two3_3 : ∀ c, c < 8 → shaP [((120 + c : Nat) : Int)] ≠ shaP [((120 + c : Nat) : Int), ((120 + c : Nat) : Int)] := by decide +kernel
end Go.Sx
