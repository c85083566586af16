/- What a count's bytes are, and what bytes are read as: in plain numbers. -/
import Derived.Test.YtjaepffehaendaaSx
set_option linter.unusedVariables false
set_option linter.unusedSimpArgs false
namespace Go.Proofs.Ytjaepffehaendaa
open Go.Sx

/-! ### A count's bytes -/
def grpF : Nat → Int → List Int
  | 0, n => [n]
  | f + 1, n => if n < 128 then [n] else (128 + n % 128) :: grpF f (n / 128)
def grp (n : Int) : List Int := grpF 8 n

theorem grpF_up : ∀ (f : Nat) (n : Int), n < 128 ^ (f + 1) → grpF (f + 1) n = grpF f n
  | 0, n, h => by
    have h' : n < 128 := by simpa using h
    show (if n < 128 then [n] else _) = [n]
    rw [if_pos h']
  | f + 1, n, h => by
    show (if n < 128 then [n] else (128 + n % 128) :: grpF (f + 1) (n / 128)) = (if n < 128 then [n] else (128 + n % 128) :: grpF f (n / 128))
    by_cases h1 : n < 128
    · rw [if_pos h1, if_pos h1]
    · rw [if_neg h1, if_neg h1, grpF_up f (n / 128) (by
        rw [Int.pow_succ] at h
        omega)]
theorem grpF_byt : ∀ (f : Nat) (n : Int), 0 ≤ n → n < 128 ^ (f + 1) → Byt (grpF f n)
  | 0, n, h0, h => by
    have h' : n < 128 := by simpa using h
    intro x hx
    have : x = n := by simpa [grpF] using hx
    omega
  | f + 1, n, h0, h => by
    intro x hx
    by_cases h1 : n < 128
    · simp only [grpF, if_pos h1, List.mem_singleton] at hx
      omega
    · simp only [grpF, if_neg h1, List.mem_cons] at hx
      rcases hx with rfl | hx
      · omega
      · exact grpF_byt f (n / 128) (by omega) (by rw [Int.pow_succ] at h; omega) x hx
theorem grpF_len : ∀ (f : Nat) (n : Int), 1 ≤ (grpF f n).length ∧ (grpF f n).length ≤ f + 1
  | 0, n => by simp [grpF]
  | f + 1, n => by
    have := grpF_len f (n / 128)
    unfold grpF
    split
    · simp
    · simp only [List.length_cons]; omega
theorem grp_byt {n : Int} (h0 : 0 ≤ n) (h1 : n < 9223372036854775808) : Byt (grp n) := grpF_byt 8 n h0 (by omega)
theorem grp_len (n : Int) : 1 ≤ (grp n).length ∧ (grp n).length ≤ 9 := grpF_len 8 n
theorem grp_300 : grp 300 = [172, 2] := by decide
theorem grp_2 : grp 2 = [2] := by decide

/-! ### What bytes begin with -/
/-- The i-th byte is come to, n is what came before it. -/
def rcF : Nat → List Int → Int → Int → Int × Int × Int
  | 0, _, _, _ => (0, 0, 11)
  | f + 1, l, i, n => match l with
    | [] => (0, 0, 10)
    | g :: r =>
      if g ≥ 128 then rcF f r (i + 1) (n + g % 128 * 128 ^ i.toNat)
      else if (0 < i ∧ g = 0) ∨ 2147483647 < n + g % 128 * 128 ^ i.toNat then (0, 0, 11) else (n + g % 128 * 128 ^ i.toNat, i + 1, 0)
def rc (l : List Int) : Int × Int × Int := rcF 5 l 0 0
end Go.Proofs.Ytjaepffehaendaa
