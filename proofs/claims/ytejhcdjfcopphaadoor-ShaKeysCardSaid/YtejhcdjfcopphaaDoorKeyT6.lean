/- An eighth of the bytes: one of a kind has another sum than two. -/
import Derived.Test.YtejhcdjfcopphaaDoorShaPure2
set_option maxRecDepth 100000
namespace Go.Sx
theorem two6_0 : ∀ c, c < 8 → shaP [((192 + c : Nat) : Int)] ≠ shaP [((192 + c : Nat) : Int), ((192 + c : Nat) : Int)] := by decide +kernel
theorem two6_1 : ∀ c, c < 8 → shaP [((200 + c : Nat) : Int)] ≠ shaP [((200 + c : Nat) : Int), ((200 + c : Nat) : Int)] := by decide +kernel
theorem two6_2 : ∀ c, c < 8 → shaP [((208 + c : Nat) : Int)] ≠ shaP [((208 + c : Nat) : Int), ((208 + c : Nat) : Int)] := by decide +kernel
theorem two6_3 : ∀ c, c < 8 → shaP [((216 + c : Nat) : Int)] ≠ shaP [((216 + c : Nat) : Int), ((216 + c : Nat) : Int)] := by decide +kernel
end Go.Sx
