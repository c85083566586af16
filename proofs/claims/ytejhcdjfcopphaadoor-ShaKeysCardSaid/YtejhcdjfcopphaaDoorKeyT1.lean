/- An eighth of the bytes: one of a kind has another sum than two. -/
import Derived.Test.YtejhcdjfcopphaaDoorShaPure2
set_option maxRecDepth 100000
namespace Go.Sx
theorem two1_0 : ∀ c, c < 8 → shaP [((32 + c : Nat) : Int)] ≠ shaP [((32 + c : Nat) : Int), ((32 + c : Nat) : Int)] := by decide +kernel
theorem two1_1 : ∀ c, c < 8 → shaP [((40 + c : Nat) : Int)] ≠ shaP [((40 + c : Nat) : Int), ((40 + c : Nat) : Int)] := by decide +kernel
theorem two1_2 : ∀ c, c < 8 → shaP [((48 + c : Nat) : Int)] ≠ shaP [((48 + c : Nat) : Int), ((48 + c : Nat) : Int)] := by decide +kernel
theorem two1_3 : ∀ c, c < 8 → shaP [((56 + c : Nat) : Int)] ≠ shaP [((56 + c : Nat) : Int), ((56 + c : Nat) : Int)] := by decide +kernel
end Go.Sx
