/- The records that tell what is saved. -/
import Derived.Test.YtcdenfkbhefbbaaV5
import Derived.Test.YtcdenfkbhefbbaaSx7
import Derived.Test.YtcdenfkbhefbbaaSx17
set_option linter.unusedVariables false
set_option linter.unusedSimpArgs false
set_option maxRecDepth 100000
namespace Go.Proofs.Ytcdenfkbhefbbaa
open Go.Sx
abbrev RcV := Rec × Sp × Sp × Sp × Sp
def rcW (p : RcV) : List Value := recX p.1 p.2.1 p.2.2.1 p.2.2.2.1 p.2.2.2.2
def rc0 : RcV := (tR 0 0, spN, spN, spN, spN)
def offN (sn : Sn) : Nat := if sn = sn0 then 1 else 2
/-- The records that tell what is saved. -/
def RL (t v : Int) (sn : Sn) (a b : Sp) (es : List EnV) (gl : List Sg) : List RcV :=
  ((tR t v, spN, spN, spN, spN) :: (if sn = sn0 then [] else [(nR sn, spN, spN, a, b)])) ++ (es.map (fun p => ((eR p.1, p.2.1, p.2.2, spN, spN) : RcV)) ++ gl.map (fun x => ((gR x, spN, spN, spN, spN) : RcV)))
section
variable {t v : Int} {sn : Sn} {a b : Sp} {es : List EnV} {gl : List Sg}
theorem hd_len : ((tR t v, spN, spN, spN, spN) :: (if sn = sn0 then [] else [((nR sn, spN, spN, a, b) : RcV)])).length = offN sn := by
  unfold offN
  split <;> rfl
theorem RL_len : (RL t v sn a b es gl).length = offN sn + es.length + gl.length := by
  unfold RL
  rw [List.length_append, hd_len, List.length_append, List.length_map, List.length_map]
  omega
theorem RL_0 : (RL t v sn a b es gl).getD 0 rc0 = (tR t v, spN, spN, spN, spN) := rfl
theorem RL_1 (h : sn ≠ sn0) : (RL t v sn a b es gl).getD 1 rc0 = (nR sn, spN, spN, a, b) := by
  unfold RL
  rw [if_neg h]
  rfl
theorem RL_e {i : Nat} (h : i < es.length) : (RL t v sn a b es gl).getD (offN sn + i) rc0 = (eR (es.getD i env0).1, (es.getD i env0).2.1, (es.getD i env0).2.2, spN, spN) := by
  unfold RL
  rw [List.getD_eq_getElem?_getD, List.getElem?_append_right (by rw [hd_len]; omega), hd_len, Nat.add_sub_cancel_left, List.getElem?_append_left (by rw [List.length_map]; exact h), List.getElem?_map, List.getD_eq_getElem?_getD, List.getElem?_eq_getElem h]
  rfl
theorem RL_g {i : Nat} (h : i < gl.length) : (RL t v sn a b es gl).getD (offN sn + es.length + i) rc0 = (gR (gl.getD i sg0), spN, spN, spN, spN) := by
  unfold RL
  rw [List.getD_eq_getElem?_getD, List.getElem?_append_right (by rw [hd_len]; omega), hd_len, Nat.add_assoc, Nat.add_sub_cancel_left, List.getElem?_append_right (by rw [List.length_map]; omega), List.length_map, Nat.add_sub_cancel_left, List.getElem?_map, List.getD_eq_getElem?_getD, List.getElem?_eq_getElem h]
  rfl
end

theorem records_o (l : List Value) (hl : l.length = 9) (w : World) :
    Calls Try.prog 20 #[.agg l.toArray] w fun e w' => ∃ b, e = .returned (.func (.func 38) #[] #[.pointer (some ⟨b, 0, none⟩)]) ∧ Fr [] w w' ∧ w.heap.size ≤ b ∧ w'.heap[b]? = some (row 30 l) := by
  refine calls_of (args := [.agg l.toArray]) ([]) ([]) ([]) Try.func20 rfl rfl (okW0 _ _ _ _) ?_
  refine J_seq ?_
  refine J_region ?_
  refine L_box rfl rfl rfl rfl rfl (fun b0 => ?_)
  refine L_v rfl rfl rfl (V_assign rfl rfl) ?_
  refine L_nil ?_
  change J _ _ _ _
  refine J_seq ?_
  refine J_region ?_
  refine L_v rfl rfl rfl (V_makeFunc rfl rfl rfl) ?_
  refine L_v rfl rfl rfl (V_assign rfl rfl) ?_
  refine L_nil ?_
  change J _ _ _ _
  refine J_ret ?_
  change Kret _ _ _ Exit.ret _
  refine ret1 rfl rfl (RV_t rfl) ?_
  exact fun w' h => ⟨b0, rfl, h.fr, (by simpa using h.may b0 (List.mem_singleton.2 rfl)), h.at (i := 0) rfl⟩

end Go.Proofs.Ytcdenfkbhefbbaa
