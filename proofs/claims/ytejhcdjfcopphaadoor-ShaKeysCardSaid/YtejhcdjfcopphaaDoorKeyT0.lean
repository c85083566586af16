/- An eighth of the bytes: one of a kind has another sum than two. -/
import Derived.Test.YtejhcdjfcopphaaDoorShaPure2
set_option maxRecDepth 100000
namespace Go.Sx
theorem two0_0 : ∀ c, c < 8 → shaP [((0 + c : Nat) : Int)] ≠ shaP [((0 + c : Nat) : Int), ((0 + c : Nat) : Int)] := by decide +kernel
theorem two0_1 : ∀ c, c < 8 → shaP [((8 + c : Nat) : Int)] ≠ shaP [((8 + c : Nat) : Int), ((8 + c : Nat) : Int)] := by decide +kernel
theorem two0_2 : ∀ c, c < 8 → shaP [((16 + c : Nat) : Int)] ≠ shaP [((16 + c : Nat) : Int), ((16 + c : Nat) : Int)] := by decide +kernel
theorem two0_3 : ∀ c, c < 8 → shaP [((24 + c : Nat) : Int)] ≠ shaP [((24 + c : Nat) : Int), ((24 + c : Nat) : Int)] := by decide +kernel
end Go.Sx
