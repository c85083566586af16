/- What the reference of layer 8 lays. -/
import Derived.Test.YtfgcfjojpakpjaaGreatSx11
import Derived.Test.YtfgcfjojpakpjaaGreatWPuts
set_option linter.unusedVariables false
set_option linter.unusedSimpArgs false
set_option maxRecDepth 100000
namespace Go.Proofs.YtfgcfjojpakpjaaGreat
open Go.Sx
def RM (b : Nat) (r : Except Int (List Int)) (z : OwnR × Value) : Mem := match r with
  | .ok L => (b, row 999999 [ownV z.1 L.length, vi 0]) :: ownM 5 z.1 (dg L)
  | .error k => [(b, row 999999 [z.2, vi k])]
def RC (r : Except Int (List Int)) (z : OwnR × Value) : Prop := match r with
  | .ok L => OwnC 1 z.1 L.length (dg L)
  | .error k => k ≠ 0
def RZ (r : Except Int (List Int)) (n : Nat) : Prop := match r with
  | .ok L => L.length + n ≤ 1099511627776
  | .error _ => True
theorem RZ.le {r : Except Int (List Int)} {m n : Nat} (h : RZ r m) (hn : n ≤ m) : RZ r n := by
  cases r with
  | ok L => show _ ≤ _; have : L.length + m ≤ _ := h; omega
  | error k => trivial
theorem RZ.step {r : Except Int (List Int)} {t : List Tok} {n : Nat} (h : RZ r (65545 * t.length + n)) : RZ (then2 r (encTs t)) n := by
  cases r with
  | error k => trivial
  | ok L =>
    cases h1 : encTs t with
    | error k => trivial
    | ok M =>
      have h2 := encTs_len h1
      have h3 : L.length + (65545 * t.length + n) ≤ 1099511627776 := h
      show (L ++ M).length + n ≤ 1099511627776
      rw [List.length_append]
      omega
/-- What is added: bytes, or an error. -/
def addF (u : Value) (x : Except Int (List Int)) : List Fact := match x with
  | .ok X => [factB u X]
  | .error _ => []
def addE (x : Except Int (List Int)) : Int := match x with
  | .ok _ => 0
  | .error k => k
abbrev Fm (fs : List Fact) (w : World) (m : Mem) : Prop := ∀ f ∈ fs, f.p w ∧ ∀ k, f.fp k → k < w.heap.size ∧ k ∉ m.map (·.1)
abbrev RP (w : World) (b : Nat) (r : Except Int (List Int)) (z : OwnR × Value) (r' : Except Int (List Int)) (val : Value) : Ending → World → Prop := RefP w (RM b r z) (RM b r') (RC r') val
theorem elr : ElemOf Tryz.prog 5 1 1 (.int .u8 0) := elem_of (by kernel_rfl) rfl
theorem encC_ok {x : Int} (h : 0 ≤ x ∧ x ≤ 2147483647) : encTs [.c x] = .ok (grp x) := by
  rw [encTs_one]
  simp only [encT]
  rw [if_pos h]
theorem encC_no {x : Int} (h : ¬ (0 ≤ x ∧ x ≤ 2147483647)) : encTs [.c x] = .error 1 := by
  rw [encTs_one]
  simp only [encT]
  rw [if_neg h]
theorem encL_ok {n : Nat} (h : n ≤ 4096) : encTs [.ln n] = encTs [.c (n : Int)] := (lnI n h).symm
theorem encL_no {n : Nat} (h : ¬ n ≤ 4096) : encTs [.ln n] = .error 2 := lnI_no h



end Go.Proofs.YtfgcfjojpakpjaaGreat
