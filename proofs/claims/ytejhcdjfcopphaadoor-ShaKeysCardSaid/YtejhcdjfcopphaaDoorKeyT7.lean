/- An eighth of the bytes: one of a kind has another sum than two. -/
import Derived.Test.YtejhcdjfcopphaaDoorShaPure2
set_option maxRecDepth 100000
namespace Go.Sx
theorem two7_0 : ∀ c, c < 8 → shaP [((224 + c : Nat) : Int)] ≠ shaP [((224 + c : Nat) : Int), ((224 + c : Nat) : Int)] := by decide +kernel
theorem two7_1 : ∀ c, c < 8 → shaP [((232 + c : Nat) : Int)] ≠ shaP [((232 + c : Nat) : Int), ((232 + c : Nat) : Int)] := by decide +kernel
theorem two7_2 : ∀ c, c < 8 → shaP [((240 + c : Nat) : Int)] ≠ shaP [((240 + c : Nat) : Int), ((240 + c : Nat) : Int)] := by decide +kernel
theorem two7_3 : ∀ c, c < 8 → shaP [((248 + c : Nat) : Int)] ≠ shaP [((248 + c : Nat) : Int), ((248 + c : Nat) : Int)] := by decide +kernel
end Go.Sx
