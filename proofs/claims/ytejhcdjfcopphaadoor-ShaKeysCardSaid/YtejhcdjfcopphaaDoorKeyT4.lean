/- An eighth of the bytes: one of a kind has another sum than two. -/
import Derived.Test.YtejhcdjfcopphaaDoorShaPure2
set_option maxRecDepth 100000
namespace Go.Sx
theorem two4_0 : ∀ c, c < 8 → shaP [((128 + c : Nat) : Int)] ≠ shaP [((128 + c : Nat) : Int), ((128 + c : Nat) : Int)] := by decide +kernel
theorem two4_1 : ∀ c, c < 8 → shaP [((136 + c : Nat) : Int)] ≠ shaP [((136 + c : Nat) : Int), ((136 + c : Nat) : Int)] := by decide +kernel
theorem two4_2 : ∀ c, c < 8 → shaP [((144 + c : Nat) : Int)] ≠ shaP [((144 + c : Nat) : Int), ((144 + c : Nat) : Int)] := by decide +kernel
theorem two4_3 : ∀ c, c < 8 → shaP [((152 + c : Nat) : Int)] ≠ shaP [((152 + c : Nat) : Int), ((152 + c : Nat) : Int)] := by decide +kernel
end Go.Sx
