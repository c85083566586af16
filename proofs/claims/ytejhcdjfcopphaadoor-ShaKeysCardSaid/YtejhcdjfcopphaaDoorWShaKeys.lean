/- What the law comes to. -/
import Derived.Test.YtejhcdjfcopphaaDoorSha4
import Derived.Test.YtejhcdjfcopphaaDoorKeep
import Derived.OpenShut
import Derived.Test.YtejhcdjfcopphaaDoorSha5
import Derived.Test.YtejhcdjfcopphaaDoorKeyTwo
set_option linter.unusedVariables false
set_option linter.unusedSimpArgs false
set_option maxRecDepth 100000
namespace Go.Proofs.YtejhcdjfcopphaaDoor
open Go.Sx
theorem egD : Tryd.prog.eqGuardType Tryd.prog.depth 26 = false := by kernel_rfl
theorem bd0 (w : World) : (Instr.build 26 ([] : List (Nat × Value)).toArray).run Tryd.prog w = .ok (.agg (dg zd).toArray) w := by kernel_rfl
theorem bsk1 (c : Int) (w : World) : (Instr.buildSlice 22 1 [(0, .int .u8 c)].toArray).run Tryd.prog w = .ok (.slice (some ⟨w.heap.size, 0, none⟩) 1 1) (w.alloc (row 5 (dg [c]))) := by kernel_rfl
theorem bsk2 (c : Int) (w : World) : (Instr.buildSlice 22 2 [(0, .int .u8 c), (1, .int .u8 c)].toArray).run Tryd.prog w = .ok (.slice (some ⟨w.heap.size, 0, none⟩) 2 2) (w.alloc (row 5 (dg [c, c]))) := by kernel_rfl
theorem sz5l : (Tryd.prog.info? 5).map (·.size) = some 1 := by kernel_rfl
theorem tx9l : Txt Tryd.prog 9 := txt_of Tryd.func9 rfl (by kernel_rfl)
theorem tx10l : Txt Tryd.prog 10 := txt_of Tryd.func10 rfl (by kernel_rfl)
theorem tx11l : Txt Tryd.prog 11 := txt_of Tryd.func11 rfl (by kernel_rfl)
theorem tx13l : Txt Tryd.prog 13 := txt_of Tryd.func13 rfl (by kernel_rfl)

theorem ShaKeys_in (c : Int) (w : World) (hc0 : 0 ≤ c) (hc1 : c < 256) (hK : TabK KT 1 w) (hR : TabK KT 0 w)  :
    Calls Tryd.prog 4 #[.int .u8 c] w fun e w' => e = .returned (.bool true) ∧ Fr [] w w' := by
  have hne := two_all c hc0 hc1
  have hb1 : Byt [c] := by intro x hx; simp at hx; omega
  have hb2 : Byt [c, c] := by intro x hx; simp at hx; omega
  refine calls_of (args := [.int .u8 c]) ([]) ([]) ([]) Tryd.func4 rfl rfl (okW0 _ _ _ _) ?_
  refine J_seq ?_
  refine J_region ?_
  refine L_v rfl rfl rfl (V_assign rfl rfl) ?_
  refine L_nil ?_
  change J _ _ _ _
  refine J_seq ?_
  refine J_region ?_
  refine L_callV rfl rfl rfl rfl rfl rfl tx9l (fun w1 hw => sums_w w1 (TabK.later hw (by simp) hK)) ?_
  refine L_v rfl rfl rfl (V_move rfl rfl) ?_
  refine L_wcallV rfl rfl rfl rfl rfl rfl rfl rfl rfl tx13l (fun w1 hw => ksame_w w1 (TabK.later hw (by simp) hR)) ?_
  first | refine L_v rfl rfl rfl (V_pickT rfl rfl rfl) ?_ | refine L_v rfl rfl rfl (V_pickF rfl rfl rfl) ?_
  refine L_v rfl rfl rfl (V_move rfl rfl) ?_
  refine L_wv rfl rfl rfl rfl rfl rfl (V_move rfl rfl) ?_
  refine L_want rfl rfl rfl rfl (S_buildSlice (vs := [(0, .int .u8 c)]) (l := dg [c]) rfl rfl rfl rfl (bsk1 c) (fun b9 => ?_))
  refine L_wcallV rfl rfl rfl rfl rfl rfl rfl rfl rfl tx10l (fun w1 hw => ssum_w [c] (some ⟨b9, 0, none⟩) 1 1 w1 (SlB.in hw (l := [c]) (r := []) (fz := (0, 0)) (List.mem_append_right _ (List.mem_singleton.2 rfl)) rfl 1) hb1 (Nat.le_refl _) (TabK.later hw (by simp) hK) (by simp)) ?_
  refine L_wv rfl rfl rfl rfl rfl rfl (V_move rfl rfl) ?_
  refine L_wv rfl rfl rfl rfl rfl rfl (V_move rfl rfl) ?_
  refine L_want rfl rfl rfl rfl (S_buildSlice (vs := [(0, .int .u8 c), (1, .int .u8 c)]) (l := dg [c, c]) rfl rfl rfl rfl (bsk2 c) (fun b13 => ?_))
  refine L_wcallV rfl rfl rfl rfl rfl rfl rfl rfl rfl tx10l (fun w1 hw => ssum_w [c, c] (some ⟨b13, 0, none⟩) 2 2 w1 (SlB.in hw (l := [c, c]) (r := []) (fz := (0, 0)) (List.mem_append_right _ (List.mem_singleton.2 rfl)) rfl 2) hb2 (Nat.le_refl _) (TabK.later hw (by simp) hK) (by simp)) ?_
  refine L_wv rfl rfl rfl rfl rfl rfl (V_neD rfl rfl rfl egD Tryd.underlying26 Tryd.underlying5 sz5l (shaP_len _) (shaP_len _) (decide_eq_true hne)) ?_
  first | refine L_v rfl rfl rfl (V_pickT rfl rfl rfl) ?_ | refine L_v rfl rfl rfl (V_pickF rfl rfl rfl) ?_
  refine L_v rfl rfl rfl (V_move rfl rfl) ?_
  refine L_wv rfl rfl rfl rfl rfl rfl (V_move rfl rfl) ?_
  refine L_want rfl rfl rfl rfl (S_buildSlice (vs := [(0, .int .u8 c)]) (l := dg [c]) rfl rfl rfl rfl (bsk1 c) (fun b19 => ?_))
  refine L_wcallV rfl rfl rfl rfl rfl rfl rfl rfl rfl tx10l (fun w1 hw => ssum_w [c] (some ⟨b19, 0, none⟩) 1 1 w1 (SlB.in hw (l := [c]) (r := []) (fz := (0, 0)) (List.mem_append_right _ (List.mem_singleton.2 rfl)) rfl 1) hb1 (Nat.le_refl _) (TabK.later hw (by simp) hK) (by simp)) ?_
  refine L_wv rfl rfl rfl rfl rfl rfl (V_move rfl rfl) ?_
  refine L_want rfl rfl rfl rfl (S_buildSlice (vs := [(0, .int .u8 c)]) (l := dg [c]) rfl rfl rfl rfl (bsk1 c) (fun b22 => ?_))
  refine L_wcallV rfl rfl rfl rfl rfl rfl rfl rfl rfl tx11l (fun w1 hw => rsum_w [c] (some ⟨b22, 0, none⟩) 1 1 w1 (SlB.in hw (l := [c]) (r := []) (fz := (0, 0)) (List.mem_append_right _ (List.mem_singleton.2 rfl)) rfl 1) hb1 (TabK.later hw (by simp) hR) (by simp)) ?_
  refine L_wv rfl rfl rfl rfl rfl rfl (V_eqD rfl rfl rfl egD Tryd.underlying26 Tryd.underlying5 sz5l (by first | exact shaP_len _ | rfl) (by first | exact shaP_len _ | rfl) (decide_eq_true rfl)) ?_
  first | refine L_v rfl rfl rfl (V_pickT rfl rfl rfl) ?_ | refine L_v rfl rfl rfl (V_pickF rfl rfl rfl) ?_
  refine L_v rfl rfl rfl (V_assign rfl rfl) ?_
  refine L_nil ?_
  change J _ _ _ _
  refine J_ret ?_
  change Kret _ _ _ Exit.ret _
  refine ret1 rfl rfl (RV_t rfl) ?_
  exact fun w' h => ⟨rfl, h.fr⟩

theorem ShaKeys_w (c : Int) (w : World) (hwf : (Lit.int .u8 c).wf = true) (hK : TabK KT 1 w) (hR : TabK KT 0 w)  :
    Calls Tryd.prog 4 #[.int .u8 c] w fun e w' => e = .returned (.bool true) ∧ Fr [] w w' := by
  have hb := Go.bounds_u8 hwf
  exact ShaKeys_in c w hb.1 (by omega) hK hR
end Go.Proofs.YtejhcdjfcopphaaDoor
