/- An eighth of the bytes: one of a kind has another sum than two. -/
import Derived.Test.YtejhcdjfcopphaaDoorShaPure2
set_option maxRecDepth 100000
namespace Go.Sx
theorem two5_0 : ∀ c, c < 8 → shaP [((160 + c : Nat) : Int)] ≠ shaP [((160 + c : Nat) : Int), ((160 + c : Nat) : Int)] := by decide +kernel
theorem two5_1 : ∀ c, c < 8 → shaP [((168 + c : Nat) : Int)] ≠ shaP [((168 + c : Nat) : Int), ((168 + c : Nat) : Int)] := by decide +kernel
theorem two5_2 : ∀ c, c < 8 → shaP [((176 + c : Nat) : Int)] ≠ shaP [((176 + c : Nat) : Int), ((176 + c : Nat) : Int)] := by decide +kernel
theorem two5_3 : ∀ c, c < 8 → shaP [((184 + c : Nat) : Int)] ≠ shaP [((184 + c : Nat) : Int), ((184 + c : Nat) : Int)] := by decide +kernel
end Go.Sx
