/- A directory of one's own. -/
import Derived.Test.YtfgcfjojpakpjaaGreatWRef3
import Derived.Test.YtfgcfjojpakpjaaGreatWIn5
import Derived.Test.YtfgcfjojpakpjaaGreatSx13
import Derived.Test.YtfgcfjojpakpjaaGreatWSame
set_option linter.unusedVariables false
set_option linter.unusedSimpArgs false
set_option maxRecDepth 100000
namespace Go.Proofs.YtfgcfjojpakpjaaGreat
open Go.Sx
def smU (us : List (Us × Value)) (i : Nat) : Nat := ((us.take i).map fun p => min p.1.2.length 5001).sum
theorem smU_step {us : List (Us × Value)} {i : Nat} (h : i < us.length) : smU us (i + 1) = smU us i + min (us.getD i UD).1.2.length 5001 := by
  unfold smU
  rw [take_s UD h]
  simp
theorem smU_int {us : List (Us × Value)} {i : Nat} (h : i < us.length) : ((smU us (i + 1) : Nat) : Int) = ((smU us i : Nat) : Int) + (if (5001 : Int) < (((us.getD i UD).1.2.length : Nat) : Int) then 5001 else (((us.getD i UD).1.2.length : Nat) : Int)) := by
  rw [smU_step h]
  split <;> omega
theorem smU_le {us : List (Us × Value)} (i : Nat) : smU us i ≤ smU us us.length := by
  unfold smU
  conv => rhs; rw [List.take_length, ← List.take_append_drop i us]
  rw [List.map_append, List.sum_append]
  omega
abbrev bigD (us : List (Us × Value)) (hs : List Hd) (ss : List Se) : Prop := 5000 < us.length ∨ 5000 < hs.length ∨ 5000 < ss.length ∨ 5000 < smU us us.length
theorem smU_all {us : List (Us × Value)} (h : smU us us.length ≤ 5000) : ((us.map Prod.fst).flatMap usC.tk).length ≤ 2 * us.length + 15000 := by
  have key : ∀ l : List (Us × Value), smU l l.length ≤ 5000 → ((l.map Prod.fst).flatMap usC.tk).length = 2 * l.length + 3 * smU l l.length := by
    intro l
    induction l with
    | nil => intro _; rfl
    | cons p l ih =>
      intro hl
      have e1 : smU (p :: l) (p :: l).length = min p.1.2.length 5001 + smU l l.length := by simp [smU]
      rw [e1] at hl ⊢
      rw [List.map_cons, List.flatMap_cons, List.length_append, ih (by omega), usT1_len, List.length_cons]
      omega
  rw [key us h]
  omega
theorem smU_each {us : List (Us × Value)} {i : Nat} (h : smU us us.length ≤ 5000) (hi : i < us.length) : (us.getD i UD).1.2.length ≤ 5000 := by
  have := smU_le (us := us) (i + 1)
  rw [smU_step hi] at this
  omega
theorem bdD (e : Int) (w : World) : (Instr.build 63 [(0, .int .i64 e)].toArray).run Tryz.prog w = .ok (.agg (drV e nilB nilB nilB).toArray) w := by kernel_rfl
theorem bdU (s : ByteArray) (a : Option Addr) (n c : Nat) (x : List Vr) (w : World) : (Instr.build 103 [(0, .string s), (1, .slice a n c)].toArray).run Tryz.prog w = .ok (.agg (usW ((s, x), .slice a n c)).toArray) w := by kernel_rfl
theorem flat_1 {es : List (List Value)} (h : ∀ e ∈ es, ∀ u ∈ e, u.oneCell' = true) : ∀ u ∈ es.flatten, u.oneCell' = true := fun u hu => by
  obtain ⟨e, he, hu⟩ := List.mem_flatten.1 hu
  exact h e he u hu
theorem us_slF {f0 f1 f2 : Fact} {fs : List Fact} {cx : Cx} {m : Mem} {us : List (Us × Value)} {w : World} {i : Nat} {ya : Option Addr} {yc : Nat} (hw : OkW cx m (f0 :: f1 :: f2 :: us.map usF ++ fs) w) (h : i < us.length) (hy : (us.getD i UD).2 = .slice ya (us.getD i UD).1.2.length yc) :
    SlC 3 w (.slice ya (us.getD i UD).1.2.length yc) (us.getD i UD).1.2.length ((us.getD i UD).1.2.map vrV).flatten := by
  have := (hw.facts _ (List.mem_append_left _ (List.mem_cons_of_mem _ (List.mem_cons_of_mem _ (List.mem_cons_of_mem _ (us_f h)))))).1
  rw [← hy]
  exact this
theorem usW_app (acc : List (Us × Value)) (p : Us × Value) : (acc.map usW).flatten ++ usW p = ((acc ++ [p]).map usW).flatten := by simp
theorem acc_fst {acc us : List (Us × Value)} {i : Nat} {v : Value} (h : i < us.length) (ha : acc.map Prod.fst = (us.take i).map Prod.fst) : (acc ++ [((us.getD i UD).1, v)]).map Prod.fst = (us.take (i + 1)).map Prod.fst := by
  rw [take_s UD h, List.map_append, List.map_append, ha]
  rfl



end Go.Proofs.YtfgcfjojpakpjaaGreat
