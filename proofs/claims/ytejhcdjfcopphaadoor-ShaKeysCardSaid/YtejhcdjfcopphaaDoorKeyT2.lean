/- An eighth of the bytes: one of a kind has another sum than two. -/
import Derived.Test.YtejhcdjfcopphaaDoorShaPure2
set_option maxRecDepth 100000
namespace Go.Sx
theorem two2_0 : ∀ c, c < 8 → shaP [((64 + c : Nat) : Int)] ≠ shaP [((64 + c : Nat) : Int), ((64 + c : Nat) : Int)] := by decide +kernel
theorem two2_1 : ∀ c, c < 8 → shaP [((72 + c : Nat) : Int)] ≠ shaP [((72 + c : Nat) : Int), ((72 + c : Nat) : Int)] := by decide +kernel
theorem two2_2 : ∀ c, c < 8 → shaP [((80 + c : Nat) : Int)] ≠ shaP [((80 + c : Nat) : Int), ((80 + c : Nat) : Int)] := by decide +kernel
theorem two2_3 : ∀ c, c < 8 → shaP [((88 + c : Nat) : Int)] ≠ shaP [((88 + c : Nat) : Int), ((88 + c : Nat) : Int)] := by decide +kernel
end Go.Sx
