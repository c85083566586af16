/- What the reference of layer 8 lays: messages, each by its parts. -/
import Derived.Test.YtcdenfkbhefbbaaWRef
set_option linter.unusedVariables false
set_option linter.unusedSimpArgs false
set_option maxRecDepth 100000
namespace Go.Proofs.Ytcdenfkbhefbbaa
open Go.Sx
theorem then2_step (r : Except Int (List Int)) (a b : List Tok) : then2 (then2 r (encTs a)) (encTs b) = then2 r (encTs (a ++ b)) := by rw [then2_assoc, ← encTs_app]
theorem toksI_step {l : List Int} {i n : Nat} (h : i < l.length) : (Tok.ln n :: toksI (l.take i)) ++ [.c (l.getD i 0)] = .ln n :: toksI (l.take (i + 1)) := by
  rw [take_s 0 h]
  simp [toksI]
theorem rec_toks2 (x : Rec) : recC.tk x = [.c x.1] ++ ([.c x.2.1] ++ ([.c x.2.2.1] ++ (enC.tk x.2.2.2.1 ++ ([.c x.2.2.2.2.1] ++ ([.c x.2.2.2.2.2.1.1] ++ ([.c x.2.2.2.2.2.1.2.1] ++ (clC.tk x.2.2.2.2.2.1.2.2.1 ++ ([.s x.2.2.2.2.2.1.2.2.2] ++ sgC.tk x.2.2.2.2.2.2)))))))) := by
  rw [rec_toks]
  simp [toksI]
theorem sz3g : (Try.prog.info? 3).map (·.size) = some 1 := by kernel_rfl
theorem sz9g : (Try.prog.info? 9).map (·.size) = some 1 := by kernel_rfl
theorem sz22g : (Try.prog.info? 22).map (·.size) = some 1 := by kernel_rfl
theorem sz24g : (Try.prog.info? 24).map (·.size) = some 2 := by kernel_rfl
theorem sz26g : (Try.prog.info? 26).map (·.size) = some 5 := by kernel_rfl
theorem sz31g : (Try.prog.info? 31).map (·.size) = some 1 := by kernel_rfl
theorem sz32g : (Try.prog.info? 32).map (·.size) = some 1 := by kernel_rfl
theorem sz33g : (Try.prog.info? 33).map (·.size) = some 1 := by kernel_rfl
theorem sz35g : (Try.prog.info? 35).map (·.size) = some 32 := by kernel_rfl
theorem sz37g : (Try.prog.info? 37).map (·.size) = some 38 := by kernel_rfl
theorem sz39g : (Try.prog.info? 39).map (·.size) = some 43 := by kernel_rfl
theorem sz41g : (Try.prog.info? 41).map (·.size) = some 65 := by kernel_rfl
theorem sz43g : (Try.prog.info? 43).map (·.size) = some 97 := by kernel_rfl
theorem tx66g : Txt Try.prog 66 := txt_of Try.func66 rfl (by kernel_rfl)
theorem tx67g : Txt Try.prog 67 := txt_of Try.func67 rfl (by kernel_rfl)
theorem tx68g : Txt Try.prog 68 := txt_of Try.func68 rfl (by kernel_rfl)
theorem tx69g : Txt Try.prog 69 := txt_of Try.func69 rfl (by kernel_rfl)
theorem tx70g : Txt Try.prog 70 := txt_of Try.func70 rfl (by kernel_rfl)
theorem tx82g : Txt Try.prog 82 := txt_of Try.func82 rfl (by kernel_rfl)
theorem tx83g : Txt Try.prog 83 := txt_of Try.func83 rfl (by kernel_rfl)
theorem tx85g : Txt Try.prog 85 := txt_of Try.func85 rfl (by kernel_rfl)
theorem tx86g : Txt Try.prog 86 := txt_of Try.func86 rfl (by kernel_rfl)
theorem tx91g : Txt Try.prog 91 := txt_of Try.func91 rfl (by kernel_rfl)

theorem rhead_w (b : Nat) (r : Except Int (List Int)) (z : OwnR × Value) (x : Hd) (w : World) (hM : MemAt w (RM b r z)) (hC : RC r z) (hsz : RZ r (65545 * (3))) :
    Calls Try.prog 85 #[.pointer (some ⟨b, 0, none⟩), .agg (hdV x).toArray] w fun e w' => RP w b r z (then2 r (encTs (hdC.tk x))) (.tuple #[]) e w' := by
  have hz0 : RZ r (65545 * ([Tok.c (x.1)] ++ ([Tok.d (x.2.1)] ++ ([Tok.d (x.2.2)]))).length) := RZ.le hsz (by simp only [List.length_append, toksI_len, clT_len, enT_len, recT_len, usT1_len, vrT_len, hdT_len, seT_len, cI_len, lsI_len, lsV_len, lsH_len, lsS_len, vr1, hd1, se1, sg1, cmd1, fm_len, List.length_cons, List.length_nil, List.length_singleton]; omega)
  refine calls_of (args := [.pointer (some ⟨b, 0, none⟩), .agg (hdV x).toArray]) ((RM b r z).map (·.1)) (RM b r z) ([]) Try.func85 rfl rfl (okMem hM (by intro f hf; cases hf)) ?_
  refine J_seq ?_
  refine J_region ?_
  refine L_box rfl rfl rfl rfl rfl (fun b0 => ?_)
  refine L_pk ([(b0, row 41 (hdV x))] ++ RM b r z) (Pk.of_perm List.perm_append_comm (List.Sublist.refl _)) ?_
  refine L_nil ?_
  change J _ _ _ _
  refine J_seq ?_
  refine J_region ?_
  refine L_v rfl rfl rfl (V_move rfl rfl) ?_
  refine L_v rfl rfl rfl (V_fieldAddr rfl rfl Try.underlying41 rfl sz3g rfl) ?_
  refine L_v rfl rfl rfl (V_load1 0 rfl rfl rfl Try.underlying3 rfl (by first | rfl | exact dg_get (by omega) (by omega))) ?_
  refine L_callRef (m1 := [(b0, row 41 (hdV x))]) (m := RM b (r) z) (Ms := RM b (then2 (r) (encTs ([Tok.c (x.1)])))) (C := RC (then2 (r) (encTs ([Tok.c (x.1)])))) (val := .tuple #[]) rfl rfl rfl rfl rfl rfl tx66g rfl (fun w1 hw => rn_w b (r) z (x.1) w1 hw.memM hC (RZ.le hz0 (by simp only [List.length_append, toksI_len, clT_len, enT_len, recT_len, usT1_len, vrT_len, hdT_len, seT_len, cI_len, lsI_len, lsV_len, lsH_len, lsS_len, vr1, hd1, se1, sg1, cmd1, fm_len, List.length_cons, List.length_nil, List.length_singleton]; omega))) (fun z1 hC1 => ?_)
  have hz1 : RZ (then2 (r) (encTs ([Tok.c (x.1)]))) (65545 * ([Tok.d (x.2.1)] ++ ([Tok.d (x.2.2)])).length) := RZ.step (RZ.le hz0 (by simp only [List.length_append, toksI_len, clT_len, enT_len, recT_len, usT1_len, vrT_len, hdT_len, seT_len, cI_len, lsI_len, lsV_len, lsH_len, lsS_len, vr1, hd1, se1, sg1, cmd1, fm_len, List.length_cons, List.length_nil, List.length_singleton]; omega))
  refine L_nil ?_
  change J _ _ _ _
  refine J_seq ?_
  refine J_region ?_
  refine L_v rfl rfl rfl (V_move rfl rfl) ?_
  refine L_v rfl rfl rfl (V_fieldAddr rfl rfl Try.underlying41 rfl sz35g rfl) ?_
  refine L_v rfl rfl rfl (V_loadT 0 (vs := dg (l32 x.2.1)) rfl rfl rfl Try.underlying35 rfl sz35g rfl rfl) ?_
  refine L_callRef (m1 := [(b0, row 41 (hdV x))]) (m := RM b (then2 (r) (encTs ([Tok.c (x.1)]))) z1) (Ms := RM b (then2 (then2 (r) (encTs ([Tok.c (x.1)]))) (encTs ([Tok.d (x.2.1)])))) (C := RC (then2 (then2 (r) (encTs ([Tok.c (x.1)]))) (encTs ([Tok.d (x.2.1)])))) (val := .tuple #[]) rfl rfl rfl rfl rfl rfl tx86g rfl (fun w1 hw => rd_w b (then2 (r) (encTs ([Tok.c (x.1)]))) z1 (x.2.1) w1 hw.memM hC1 (RZ.le hz1 (by simp only [List.length_append, toksI_len, clT_len, enT_len, recT_len, usT1_len, vrT_len, hdT_len, seT_len, cI_len, lsI_len, lsV_len, lsH_len, lsS_len, vr1, hd1, se1, sg1, cmd1, fm_len, List.length_cons, List.length_nil, List.length_singleton]; omega))) (fun z2 hC2 => ?_)
  have hz2 : RZ (then2 (then2 (r) (encTs ([Tok.c (x.1)]))) (encTs ([Tok.d (x.2.1)]))) (65545 * ([Tok.d (x.2.2)]).length) := RZ.step (RZ.le hz1 (by simp only [List.length_append, toksI_len, clT_len, enT_len, recT_len, usT1_len, vrT_len, hdT_len, seT_len, cI_len, lsI_len, lsV_len, lsH_len, lsS_len, vr1, hd1, se1, sg1, cmd1, fm_len, List.length_cons, List.length_nil, List.length_singleton]; omega))
  refine L_nil ?_
  change J _ _ _ _
  refine J_region ?_
  refine L_v rfl rfl rfl (V_move rfl rfl) ?_
  refine L_v rfl rfl rfl (V_fieldAddr rfl rfl Try.underlying41 rfl sz35g rfl) ?_
  refine L_v rfl rfl rfl (V_loadT 0 (vs := dg (l32 x.2.2)) rfl rfl rfl Try.underlying35 rfl sz35g rfl rfl) ?_
  refine L_callRef (m1 := [(b0, row 41 (hdV x))]) (m := RM b (then2 (then2 (r) (encTs ([Tok.c (x.1)]))) (encTs ([Tok.d (x.2.1)]))) z2) (Ms := RM b (then2 (then2 (then2 (r) (encTs ([Tok.c (x.1)]))) (encTs ([Tok.d (x.2.1)]))) (encTs ([Tok.d (x.2.2)])))) (C := RC (then2 (then2 (then2 (r) (encTs ([Tok.c (x.1)]))) (encTs ([Tok.d (x.2.1)]))) (encTs ([Tok.d (x.2.2)])))) (val := .tuple #[]) rfl rfl rfl rfl rfl rfl tx86g rfl (fun w1 hw => rd_w b (then2 (then2 (r) (encTs ([Tok.c (x.1)]))) (encTs ([Tok.d (x.2.1)]))) z2 (x.2.2) w1 hw.memM hC2 (RZ.le hz2 (by simp only [List.length_append, toksI_len, clT_len, enT_len, recT_len, usT1_len, vrT_len, hdT_len, seT_len, cI_len, lsI_len, lsV_len, lsH_len, lsS_len, vr1, hd1, se1, sg1, cmd1, fm_len, List.length_cons, List.length_nil, List.length_singleton]; omega))) (fun z3 hC3 => ?_)
  refine L_nil ?_
  change Kret _ _ _ Exit.normal _
  refine Kret_normal ?_
  refine ret0 rfl rfl  ?_
  have e9 : then2 (then2 (then2 (r) (encTs ([Tok.c (x.1)]))) (encTs ([Tok.d (x.2.1)]))) (encTs ([Tok.d (x.2.2)])) = then2 r (encTs (hdC.tk x)) := by
    rw [show hdC.tk x = [Tok.c (x.1)] ++ ([Tok.d (x.2.1)] ++ ([Tok.d (x.2.2)])) from rfl]
    simp only [encTs_app, then2_assoc]
  exact fun w' h => by rw [← e9]; exact RefP.of z3 h rfl hC3 (List.sublist_append_right _ _)

theorem rsig_w (b : Nat) (r : Except Int (List Int)) (z : OwnR × Value) (x : Sg) (w : World) (hM : MemAt w (RM b r z)) (hC : RC r z) (hsz : RZ r (65545 * (4))) :
    Calls Try.prog 70 #[.pointer (some ⟨b, 0, none⟩), .agg (sgV x).toArray] w fun e w' => RP w b r z (then2 r (encTs (sgC.tk x))) (.tuple #[]) e w' := by
  have hz0 : RZ r (65545 * (hdC.tk x.1 ++ ([Tok.d (x.2)])).length) := RZ.le hsz (by simp only [List.length_append, toksI_len, clT_len, enT_len, recT_len, usT1_len, vrT_len, hdT_len, seT_len, cI_len, lsI_len, lsV_len, lsH_len, lsS_len, vr1, hd1, se1, sg1, cmd1, fm_len, List.length_cons, List.length_nil, List.length_singleton]; omega)
  refine calls_of (args := [.pointer (some ⟨b, 0, none⟩), .agg (sgV x).toArray]) ((RM b r z).map (·.1)) (RM b r z) ([]) Try.func70 rfl rfl (okMem hM (by intro f hf; cases hf)) ?_
  refine J_seq ?_
  refine J_region ?_
  refine L_box rfl rfl rfl rfl rfl (fun b0 => ?_)
  refine L_pk ([(b0, row 43 (sgV x))] ++ RM b r z) (Pk.of_perm List.perm_append_comm (List.Sublist.refl _)) ?_
  refine L_nil ?_
  change J _ _ _ _
  refine J_seq ?_
  refine J_region ?_
  refine L_v rfl rfl rfl (V_move rfl rfl) ?_
  refine L_v rfl rfl rfl (V_fieldAddr rfl rfl Try.underlying43 rfl sz41g rfl) ?_
  refine L_v rfl rfl rfl (V_loadT 0 (vs := hdV x.1) rfl rfl rfl Try.underlying41 rfl sz41g rfl rfl) ?_
  refine L_callRef (m1 := [(b0, row 43 (sgV x))]) (m := RM b (r) z) (Ms := RM b (then2 (r) (encTs (hdC.tk x.1)))) (C := RC (then2 (r) (encTs (hdC.tk x.1)))) (val := .tuple #[]) rfl rfl rfl rfl rfl rfl tx85g rfl (fun w1 hw => rhead_w b (r) z x.1 w1 hw.memM hC (RZ.le hz0 (by simp only [List.length_append, toksI_len, clT_len, enT_len, recT_len, usT1_len, vrT_len, hdT_len, seT_len, cI_len, lsI_len, lsV_len, lsH_len, lsS_len, vr1, hd1, se1, sg1, cmd1, fm_len, List.length_cons, List.length_nil, List.length_singleton]; omega))) (fun z1 hC1 => ?_)
  have hz1 : RZ (then2 (r) (encTs (hdC.tk x.1))) (65545 * ([Tok.d (x.2)]).length) := RZ.step (RZ.le hz0 (by simp only [List.length_append, toksI_len, clT_len, enT_len, recT_len, usT1_len, vrT_len, hdT_len, seT_len, cI_len, lsI_len, lsV_len, lsH_len, lsS_len, vr1, hd1, se1, sg1, cmd1, fm_len, List.length_cons, List.length_nil, List.length_singleton]; omega))
  refine L_nil ?_
  change J _ _ _ _
  refine J_region ?_
  refine L_v rfl rfl rfl (V_move rfl rfl) ?_
  refine L_v rfl rfl rfl (V_fieldAddr rfl rfl Try.underlying43 rfl sz35g rfl) ?_
  refine L_v rfl rfl rfl (V_loadT 0 (vs := dg (l32 x.2)) rfl rfl rfl Try.underlying35 rfl sz35g rfl rfl) ?_
  refine L_callRef (m1 := [(b0, row 43 (sgV x))]) (m := RM b (then2 (r) (encTs (hdC.tk x.1))) z1) (Ms := RM b (then2 (then2 (r) (encTs (hdC.tk x.1))) (encTs ([Tok.d (x.2)])))) (C := RC (then2 (then2 (r) (encTs (hdC.tk x.1))) (encTs ([Tok.d (x.2)])))) (val := .tuple #[]) rfl rfl rfl rfl rfl rfl tx86g rfl (fun w1 hw => rd_w b (then2 (r) (encTs (hdC.tk x.1))) z1 (x.2) w1 hw.memM hC1 (RZ.le hz1 (by simp only [List.length_append, toksI_len, clT_len, enT_len, recT_len, usT1_len, vrT_len, hdT_len, seT_len, cI_len, lsI_len, lsV_len, lsH_len, lsS_len, vr1, hd1, se1, sg1, cmd1, fm_len, List.length_cons, List.length_nil, List.length_singleton]; omega))) (fun z2 hC2 => ?_)
  refine L_nil ?_
  change Kret _ _ _ Exit.normal _
  refine Kret_normal ?_
  refine ret0 rfl rfl  ?_
  have e9 : then2 (then2 (r) (encTs (hdC.tk x.1))) (encTs ([Tok.d (x.2)])) = then2 r (encTs (sgC.tk x)) := by
    rw [show sgC.tk x = hdC.tk x.1 ++ ([Tok.d (x.2)]) from rfl]
    simp only [encTs_app, then2_assoc]
  exact fun w' h => by rw [← e9]; exact RefP.of z2 h rfl hC2 (List.sublist_append_right _ _)

theorem rcmd_w (b : Nat) (r : Except Int (List Int)) (z : OwnR × Value) (x : Cmd) (w : World) (hM : MemAt w (RM b r z)) (hC : RC r z) (hsz : RZ r (65545 * (7))) :
    Calls Try.prog 82 #[.pointer (some ⟨b, 0, none⟩), .agg (cmdV x).toArray] w fun e w' => RP w b r z (then2 r (encTs (cmdC.tk x))) (.tuple #[]) e w' := by
  have hz0 : RZ r (65545 * ([Tok.c (x.1)] ++ ([Tok.c (x.2.1)] ++ ([Tok.c (x.2.2.1)] ++ ([Tok.s (x.2.2.2.1)] ++ ([Tok.s (x.2.2.2.2.1)] ++ ([Tok.c (x.2.2.2.2.2.1)] ++ ([Tok.d (x.2.2.2.2.2.2)]))))))).length) := RZ.le hsz (by simp only [List.length_append, toksI_len, clT_len, enT_len, recT_len, usT1_len, vrT_len, hdT_len, seT_len, cI_len, lsI_len, lsV_len, lsH_len, lsS_len, vr1, hd1, se1, sg1, cmd1, fm_len, List.length_cons, List.length_nil, List.length_singleton]; omega)
  refine calls_of (args := [.pointer (some ⟨b, 0, none⟩), .agg (cmdV x).toArray]) ((RM b r z).map (·.1)) (RM b r z) ([]) Try.func82 rfl rfl (okMem hM (by intro f hf; cases hf)) ?_
  refine J_seq ?_
  refine J_region ?_
  refine L_box rfl rfl rfl rfl rfl (fun b0 => ?_)
  refine L_pk ([(b0, row 37 (cmdV x))] ++ RM b r z) (Pk.of_perm List.perm_append_comm (List.Sublist.refl _)) ?_
  refine L_nil ?_
  change J _ _ _ _
  refine J_seq ?_
  refine J_region ?_
  refine L_v rfl rfl rfl (V_move rfl rfl) ?_
  refine L_v rfl rfl rfl (V_fieldAddr rfl rfl Try.underlying37 rfl sz33g rfl) ?_
  refine L_v rfl rfl rfl (V_load1 0 rfl rfl rfl Try.underlying33 rfl (by first | rfl | exact dg_get (by omega) (by omega))) ?_
  refine L_callRef (m1 := [(b0, row 37 (cmdV x))]) (m := RM b (r) z) (Ms := RM b (then2 (r) (encTs ([Tok.c (x.1)])))) (C := RC (then2 (r) (encTs ([Tok.c (x.1)])))) (val := .tuple #[]) rfl rfl rfl rfl rfl rfl tx66g rfl (fun w1 hw => rn_w b (r) z (x.1) w1 hw.memM hC (RZ.le hz0 (by simp only [List.length_append, toksI_len, clT_len, enT_len, recT_len, usT1_len, vrT_len, hdT_len, seT_len, cI_len, lsI_len, lsV_len, lsH_len, lsS_len, vr1, hd1, se1, sg1, cmd1, fm_len, List.length_cons, List.length_nil, List.length_singleton]; omega))) (fun z1 hC1 => ?_)
  have hz1 : RZ (then2 (r) (encTs ([Tok.c (x.1)]))) (65545 * ([Tok.c (x.2.1)] ++ ([Tok.c (x.2.2.1)] ++ ([Tok.s (x.2.2.2.1)] ++ ([Tok.s (x.2.2.2.2.1)] ++ ([Tok.c (x.2.2.2.2.2.1)] ++ ([Tok.d (x.2.2.2.2.2.2)])))))).length) := RZ.step (RZ.le hz0 (by simp only [List.length_append, toksI_len, clT_len, enT_len, recT_len, usT1_len, vrT_len, hdT_len, seT_len, cI_len, lsI_len, lsV_len, lsH_len, lsS_len, vr1, hd1, se1, sg1, cmd1, fm_len, List.length_cons, List.length_nil, List.length_singleton]; omega))
  refine L_nil ?_
  change J _ _ _ _
  refine J_seq ?_
  refine J_region ?_
  refine L_v rfl rfl rfl (V_move rfl rfl) ?_
  refine L_v rfl rfl rfl (V_fieldAddr rfl rfl Try.underlying37 rfl sz3g rfl) ?_
  refine L_v rfl rfl rfl (V_load1 0 rfl rfl rfl Try.underlying3 rfl (by first | rfl | exact dg_get (by omega) (by omega))) ?_
  refine L_callRef (m1 := [(b0, row 37 (cmdV x))]) (m := RM b (then2 (r) (encTs ([Tok.c (x.1)]))) z1) (Ms := RM b (then2 (then2 (r) (encTs ([Tok.c (x.1)]))) (encTs ([Tok.c (x.2.1)])))) (C := RC (then2 (then2 (r) (encTs ([Tok.c (x.1)]))) (encTs ([Tok.c (x.2.1)])))) (val := .tuple #[]) rfl rfl rfl rfl rfl rfl tx66g rfl (fun w1 hw => rn_w b (then2 (r) (encTs ([Tok.c (x.1)]))) z1 (x.2.1) w1 hw.memM hC1 (RZ.le hz1 (by simp only [List.length_append, toksI_len, clT_len, enT_len, recT_len, usT1_len, vrT_len, hdT_len, seT_len, cI_len, lsI_len, lsV_len, lsH_len, lsS_len, vr1, hd1, se1, sg1, cmd1, fm_len, List.length_cons, List.length_nil, List.length_singleton]; omega))) (fun z2 hC2 => ?_)
  have hz2 : RZ (then2 (then2 (r) (encTs ([Tok.c (x.1)]))) (encTs ([Tok.c (x.2.1)]))) (65545 * ([Tok.c (x.2.2.1)] ++ ([Tok.s (x.2.2.2.1)] ++ ([Tok.s (x.2.2.2.2.1)] ++ ([Tok.c (x.2.2.2.2.2.1)] ++ ([Tok.d (x.2.2.2.2.2.2)]))))).length) := RZ.step (RZ.le hz1 (by simp only [List.length_append, toksI_len, clT_len, enT_len, recT_len, usT1_len, vrT_len, hdT_len, seT_len, cI_len, lsI_len, lsV_len, lsH_len, lsS_len, vr1, hd1, se1, sg1, cmd1, fm_len, List.length_cons, List.length_nil, List.length_singleton]; omega))
  refine L_nil ?_
  change J _ _ _ _
  refine J_seq ?_
  refine J_region ?_
  refine L_v rfl rfl rfl (V_move rfl rfl) ?_
  refine L_v rfl rfl rfl (V_fieldAddr rfl rfl Try.underlying37 rfl sz3g rfl) ?_
  refine L_v rfl rfl rfl (V_load1 0 rfl rfl rfl Try.underlying3 rfl (by first | rfl | exact dg_get (by omega) (by omega))) ?_
  refine L_callRef (m1 := [(b0, row 37 (cmdV x))]) (m := RM b (then2 (then2 (r) (encTs ([Tok.c (x.1)]))) (encTs ([Tok.c (x.2.1)]))) z2) (Ms := RM b (then2 (then2 (then2 (r) (encTs ([Tok.c (x.1)]))) (encTs ([Tok.c (x.2.1)]))) (encTs ([Tok.c (x.2.2.1)])))) (C := RC (then2 (then2 (then2 (r) (encTs ([Tok.c (x.1)]))) (encTs ([Tok.c (x.2.1)]))) (encTs ([Tok.c (x.2.2.1)])))) (val := .tuple #[]) rfl rfl rfl rfl rfl rfl tx66g rfl (fun w1 hw => rn_w b (then2 (then2 (r) (encTs ([Tok.c (x.1)]))) (encTs ([Tok.c (x.2.1)]))) z2 (x.2.2.1) w1 hw.memM hC2 (RZ.le hz2 (by simp only [List.length_append, toksI_len, clT_len, enT_len, recT_len, usT1_len, vrT_len, hdT_len, seT_len, cI_len, lsI_len, lsV_len, lsH_len, lsS_len, vr1, hd1, se1, sg1, cmd1, fm_len, List.length_cons, List.length_nil, List.length_singleton]; omega))) (fun z3 hC3 => ?_)
  have hz3 : RZ (then2 (then2 (then2 (r) (encTs ([Tok.c (x.1)]))) (encTs ([Tok.c (x.2.1)]))) (encTs ([Tok.c (x.2.2.1)]))) (65545 * ([Tok.s (x.2.2.2.1)] ++ ([Tok.s (x.2.2.2.2.1)] ++ ([Tok.c (x.2.2.2.2.2.1)] ++ ([Tok.d (x.2.2.2.2.2.2)])))).length) := RZ.step (RZ.le hz2 (by simp only [List.length_append, toksI_len, clT_len, enT_len, recT_len, usT1_len, vrT_len, hdT_len, seT_len, cI_len, lsI_len, lsV_len, lsH_len, lsS_len, vr1, hd1, se1, sg1, cmd1, fm_len, List.length_cons, List.length_nil, List.length_singleton]; omega))
  refine L_nil ?_
  change J _ _ _ _
  refine J_seq ?_
  refine J_region ?_
  refine L_v rfl rfl rfl (V_move rfl rfl) ?_
  refine L_v rfl rfl rfl (V_fieldAddr rfl rfl Try.underlying37 rfl sz9g rfl) ?_
  refine L_v rfl rfl rfl (V_load1 0 rfl rfl rfl Try.underlying9 rfl (by first | rfl | exact dg_get (by omega) (by omega))) ?_
  refine L_callRef (m1 := [(b0, row 37 (cmdV x))]) (m := RM b (then2 (then2 (then2 (r) (encTs ([Tok.c (x.1)]))) (encTs ([Tok.c (x.2.1)]))) (encTs ([Tok.c (x.2.2.1)]))) z3) (Ms := RM b (then2 (then2 (then2 (then2 (r) (encTs ([Tok.c (x.1)]))) (encTs ([Tok.c (x.2.1)]))) (encTs ([Tok.c (x.2.2.1)]))) (encTs ([Tok.s (x.2.2.2.1)])))) (C := RC (then2 (then2 (then2 (then2 (r) (encTs ([Tok.c (x.1)]))) (encTs ([Tok.c (x.2.1)]))) (encTs ([Tok.c (x.2.2.1)]))) (encTs ([Tok.s (x.2.2.2.1)])))) (val := .tuple #[]) rfl rfl rfl rfl rfl rfl tx69g rfl (fun w1 hw => rs_w b (then2 (then2 (then2 (r) (encTs ([Tok.c (x.1)]))) (encTs ([Tok.c (x.2.1)]))) (encTs ([Tok.c (x.2.2.1)]))) z3 (x.2.2.2.1) w1 hw.memM hC3 (RZ.le hz3 (by simp only [List.length_append, toksI_len, clT_len, enT_len, recT_len, usT1_len, vrT_len, hdT_len, seT_len, cI_len, lsI_len, lsV_len, lsH_len, lsS_len, vr1, hd1, se1, sg1, cmd1, fm_len, List.length_cons, List.length_nil, List.length_singleton]; omega))) (fun z4 hC4 => ?_)
  have hz4 : RZ (then2 (then2 (then2 (then2 (r) (encTs ([Tok.c (x.1)]))) (encTs ([Tok.c (x.2.1)]))) (encTs ([Tok.c (x.2.2.1)]))) (encTs ([Tok.s (x.2.2.2.1)]))) (65545 * ([Tok.s (x.2.2.2.2.1)] ++ ([Tok.c (x.2.2.2.2.2.1)] ++ ([Tok.d (x.2.2.2.2.2.2)]))).length) := RZ.step (RZ.le hz3 (by simp only [List.length_append, toksI_len, clT_len, enT_len, recT_len, usT1_len, vrT_len, hdT_len, seT_len, cI_len, lsI_len, lsV_len, lsH_len, lsS_len, vr1, hd1, se1, sg1, cmd1, fm_len, List.length_cons, List.length_nil, List.length_singleton]; omega))
  refine L_nil ?_
  change J _ _ _ _
  refine J_seq ?_
  refine J_region ?_
  refine L_v rfl rfl rfl (V_move rfl rfl) ?_
  refine L_v rfl rfl rfl (V_fieldAddr rfl rfl Try.underlying37 rfl sz9g rfl) ?_
  refine L_v rfl rfl rfl (V_load1 0 rfl rfl rfl Try.underlying9 rfl (by first | rfl | exact dg_get (by omega) (by omega))) ?_
  refine L_callRef (m1 := [(b0, row 37 (cmdV x))]) (m := RM b (then2 (then2 (then2 (then2 (r) (encTs ([Tok.c (x.1)]))) (encTs ([Tok.c (x.2.1)]))) (encTs ([Tok.c (x.2.2.1)]))) (encTs ([Tok.s (x.2.2.2.1)]))) z4) (Ms := RM b (then2 (then2 (then2 (then2 (then2 (r) (encTs ([Tok.c (x.1)]))) (encTs ([Tok.c (x.2.1)]))) (encTs ([Tok.c (x.2.2.1)]))) (encTs ([Tok.s (x.2.2.2.1)]))) (encTs ([Tok.s (x.2.2.2.2.1)])))) (C := RC (then2 (then2 (then2 (then2 (then2 (r) (encTs ([Tok.c (x.1)]))) (encTs ([Tok.c (x.2.1)]))) (encTs ([Tok.c (x.2.2.1)]))) (encTs ([Tok.s (x.2.2.2.1)]))) (encTs ([Tok.s (x.2.2.2.2.1)])))) (val := .tuple #[]) rfl rfl rfl rfl rfl rfl tx69g rfl (fun w1 hw => rs_w b (then2 (then2 (then2 (then2 (r) (encTs ([Tok.c (x.1)]))) (encTs ([Tok.c (x.2.1)]))) (encTs ([Tok.c (x.2.2.1)]))) (encTs ([Tok.s (x.2.2.2.1)]))) z4 (x.2.2.2.2.1) w1 hw.memM hC4 (RZ.le hz4 (by simp only [List.length_append, toksI_len, clT_len, enT_len, recT_len, usT1_len, vrT_len, hdT_len, seT_len, cI_len, lsI_len, lsV_len, lsH_len, lsS_len, vr1, hd1, se1, sg1, cmd1, fm_len, List.length_cons, List.length_nil, List.length_singleton]; omega))) (fun z5 hC5 => ?_)
  have hz5 : RZ (then2 (then2 (then2 (then2 (then2 (r) (encTs ([Tok.c (x.1)]))) (encTs ([Tok.c (x.2.1)]))) (encTs ([Tok.c (x.2.2.1)]))) (encTs ([Tok.s (x.2.2.2.1)]))) (encTs ([Tok.s (x.2.2.2.2.1)]))) (65545 * ([Tok.c (x.2.2.2.2.2.1)] ++ ([Tok.d (x.2.2.2.2.2.2)])).length) := RZ.step (RZ.le hz4 (by simp only [List.length_append, toksI_len, clT_len, enT_len, recT_len, usT1_len, vrT_len, hdT_len, seT_len, cI_len, lsI_len, lsV_len, lsH_len, lsS_len, vr1, hd1, se1, sg1, cmd1, fm_len, List.length_cons, List.length_nil, List.length_singleton]; omega))
  refine L_nil ?_
  change J _ _ _ _
  refine J_seq ?_
  refine J_region ?_
  refine L_v rfl rfl rfl (V_move rfl rfl) ?_
  refine L_v rfl rfl rfl (V_fieldAddr rfl rfl Try.underlying37 rfl sz3g rfl) ?_
  refine L_v rfl rfl rfl (V_load1 0 rfl rfl rfl Try.underlying3 rfl (by first | rfl | exact dg_get (by omega) (by omega))) ?_
  refine L_callRef (m1 := [(b0, row 37 (cmdV x))]) (m := RM b (then2 (then2 (then2 (then2 (then2 (r) (encTs ([Tok.c (x.1)]))) (encTs ([Tok.c (x.2.1)]))) (encTs ([Tok.c (x.2.2.1)]))) (encTs ([Tok.s (x.2.2.2.1)]))) (encTs ([Tok.s (x.2.2.2.2.1)]))) z5) (Ms := RM b (then2 (then2 (then2 (then2 (then2 (then2 (r) (encTs ([Tok.c (x.1)]))) (encTs ([Tok.c (x.2.1)]))) (encTs ([Tok.c (x.2.2.1)]))) (encTs ([Tok.s (x.2.2.2.1)]))) (encTs ([Tok.s (x.2.2.2.2.1)]))) (encTs ([Tok.c (x.2.2.2.2.2.1)])))) (C := RC (then2 (then2 (then2 (then2 (then2 (then2 (r) (encTs ([Tok.c (x.1)]))) (encTs ([Tok.c (x.2.1)]))) (encTs ([Tok.c (x.2.2.1)]))) (encTs ([Tok.s (x.2.2.2.1)]))) (encTs ([Tok.s (x.2.2.2.2.1)]))) (encTs ([Tok.c (x.2.2.2.2.2.1)])))) (val := .tuple #[]) rfl rfl rfl rfl rfl rfl tx66g rfl (fun w1 hw => rn_w b (then2 (then2 (then2 (then2 (then2 (r) (encTs ([Tok.c (x.1)]))) (encTs ([Tok.c (x.2.1)]))) (encTs ([Tok.c (x.2.2.1)]))) (encTs ([Tok.s (x.2.2.2.1)]))) (encTs ([Tok.s (x.2.2.2.2.1)]))) z5 (x.2.2.2.2.2.1) w1 hw.memM hC5 (RZ.le hz5 (by simp only [List.length_append, toksI_len, clT_len, enT_len, recT_len, usT1_len, vrT_len, hdT_len, seT_len, cI_len, lsI_len, lsV_len, lsH_len, lsS_len, vr1, hd1, se1, sg1, cmd1, fm_len, List.length_cons, List.length_nil, List.length_singleton]; omega))) (fun z6 hC6 => ?_)
  have hz6 : RZ (then2 (then2 (then2 (then2 (then2 (then2 (r) (encTs ([Tok.c (x.1)]))) (encTs ([Tok.c (x.2.1)]))) (encTs ([Tok.c (x.2.2.1)]))) (encTs ([Tok.s (x.2.2.2.1)]))) (encTs ([Tok.s (x.2.2.2.2.1)]))) (encTs ([Tok.c (x.2.2.2.2.2.1)]))) (65545 * ([Tok.d (x.2.2.2.2.2.2)]).length) := RZ.step (RZ.le hz5 (by simp only [List.length_append, toksI_len, clT_len, enT_len, recT_len, usT1_len, vrT_len, hdT_len, seT_len, cI_len, lsI_len, lsV_len, lsH_len, lsS_len, vr1, hd1, se1, sg1, cmd1, fm_len, List.length_cons, List.length_nil, List.length_singleton]; omega))
  refine L_nil ?_
  change J _ _ _ _
  refine J_region ?_
  refine L_v rfl rfl rfl (V_move rfl rfl) ?_
  refine L_v rfl rfl rfl (V_fieldAddr rfl rfl Try.underlying37 rfl sz35g rfl) ?_
  refine L_v rfl rfl rfl (V_loadT 0 (vs := dg (l32 x.2.2.2.2.2.2)) rfl rfl rfl Try.underlying35 rfl sz35g rfl rfl) ?_
  refine L_callRef (m1 := [(b0, row 37 (cmdV x))]) (m := RM b (then2 (then2 (then2 (then2 (then2 (then2 (r) (encTs ([Tok.c (x.1)]))) (encTs ([Tok.c (x.2.1)]))) (encTs ([Tok.c (x.2.2.1)]))) (encTs ([Tok.s (x.2.2.2.1)]))) (encTs ([Tok.s (x.2.2.2.2.1)]))) (encTs ([Tok.c (x.2.2.2.2.2.1)]))) z6) (Ms := RM b (then2 (then2 (then2 (then2 (then2 (then2 (then2 (r) (encTs ([Tok.c (x.1)]))) (encTs ([Tok.c (x.2.1)]))) (encTs ([Tok.c (x.2.2.1)]))) (encTs ([Tok.s (x.2.2.2.1)]))) (encTs ([Tok.s (x.2.2.2.2.1)]))) (encTs ([Tok.c (x.2.2.2.2.2.1)]))) (encTs ([Tok.d (x.2.2.2.2.2.2)])))) (C := RC (then2 (then2 (then2 (then2 (then2 (then2 (then2 (r) (encTs ([Tok.c (x.1)]))) (encTs ([Tok.c (x.2.1)]))) (encTs ([Tok.c (x.2.2.1)]))) (encTs ([Tok.s (x.2.2.2.1)]))) (encTs ([Tok.s (x.2.2.2.2.1)]))) (encTs ([Tok.c (x.2.2.2.2.2.1)]))) (encTs ([Tok.d (x.2.2.2.2.2.2)])))) (val := .tuple #[]) rfl rfl rfl rfl rfl rfl tx86g rfl (fun w1 hw => rd_w b (then2 (then2 (then2 (then2 (then2 (then2 (r) (encTs ([Tok.c (x.1)]))) (encTs ([Tok.c (x.2.1)]))) (encTs ([Tok.c (x.2.2.1)]))) (encTs ([Tok.s (x.2.2.2.1)]))) (encTs ([Tok.s (x.2.2.2.2.1)]))) (encTs ([Tok.c (x.2.2.2.2.2.1)]))) z6 (x.2.2.2.2.2.2) w1 hw.memM hC6 (RZ.le hz6 (by simp only [List.length_append, toksI_len, clT_len, enT_len, recT_len, usT1_len, vrT_len, hdT_len, seT_len, cI_len, lsI_len, lsV_len, lsH_len, lsS_len, vr1, hd1, se1, sg1, cmd1, fm_len, List.length_cons, List.length_nil, List.length_singleton]; omega))) (fun z7 hC7 => ?_)
  refine L_nil ?_
  change Kret _ _ _ Exit.normal _
  refine Kret_normal ?_
  refine ret0 rfl rfl  ?_
  have e9 : then2 (then2 (then2 (then2 (then2 (then2 (then2 (r) (encTs ([Tok.c (x.1)]))) (encTs ([Tok.c (x.2.1)]))) (encTs ([Tok.c (x.2.2.1)]))) (encTs ([Tok.s (x.2.2.2.1)]))) (encTs ([Tok.s (x.2.2.2.2.1)]))) (encTs ([Tok.c (x.2.2.2.2.2.1)]))) (encTs ([Tok.d (x.2.2.2.2.2.2)])) = then2 r (encTs (cmdC.tk x)) := by
    rw [show cmdC.tk x = [Tok.c (x.1)] ++ ([Tok.c (x.2.1)] ++ ([Tok.c (x.2.2.1)] ++ ([Tok.s (x.2.2.2.1)] ++ ([Tok.s (x.2.2.2.2.1)] ++ ([Tok.c (x.2.2.2.2.2.1)] ++ ([Tok.d (x.2.2.2.2.2.2)])))))) from rfl]
    simp only [encTs_app, then2_assoc]
  exact fun w' h => by rw [← e9]; exact RefP.of z7 h rfl hC7 (List.sublist_append_right _ _)

theorem rints_w (b : Nat) (r : Except Int (List Int)) (z : OwnR × Value) (va : Option Addr) (vn vc : Nat) (xs : List Int) (w : World) (hM : MemAt w (RM b r z)) (hC : RC r z) (hxs : xs.length = vn) (hfs : Fm ([factC 1 (.slice va vn vc) vn (ints xs)]) w (RM b r z)) (hsz : RZ r (65545 * (4097))) :
    Calls Try.prog 83 #[.pointer (some ⟨b, 0, none⟩), .slice va vn vc] w fun e w' => RP w b r z (then2 r (encTs (.ln vn :: toksI xs))) (.tuple #[]) e w' := by
  refine calls_of (args := [.pointer (some ⟨b, 0, none⟩), .slice va vn vc]) ((RM b r z).map (·.1)) (RM b r z) ([factC 1 (.slice va vn vc) vn (ints xs)]) Try.func83 rfl rfl (okMem hM hfs) ?_
  by_cases hx : vn ≤ 4096
  ·
    skip
    refine J_seq ?_
    refine J_seq ?_
    refine J_region ?_
    refine L_v rfl rfl rfl (V_move rfl rfl) ?_
    refine L_v rfl rfl rfl (V_move rfl rfl) ?_
    refine L_v rfl rfl rfl (V_len rfl rfl Try.underlying22 rfl) ?_
    refine L_callRef (m1 := []) (m := RM b (r) z) (Ms := RM b (then2 r (encTs [.ln vn]))) (C := RC (then2 r (encTs [.ln vn]))) (val := .bool true) rfl rfl rfl rfl rfl rfl tx91g rfl (fun w1 hw => (by have h9 := rmany_w b r z vn w1 hw.memM hC (RZ.le hsz (by omega)); rw [decide_eq_true hx] at h9; exact h9)) (fun z1 hC1 => ?_)
    refine L_v rfl rfl rfl (V_not rfl rfl rfl) ?_
    refine L_nil ?_
    change J _ _ _ _
    refine J_false rfl ?_
    refine J_skip ?_
    change J _ _ _ _
    refine J_seq ?_
    refine J_region ?_
    refine L_v rfl rfl rfl (V_assign rfl rfl) ?_
    refine L_nil ?_
    change J _ _ _ _
    refine J_block ?_
    refine J_loop (X := Nat × OwnR × Value) (fun x => { env := [(0, .pointer (some ⟨b, 0, none⟩)), (1, .slice va vn vc), (4, .int .i64 (x.1 : Int))], mem := RM b (then2 r (encTs (.ln vn :: toksI (xs.take x.1)))) x.2, facts := [factC 1 (.slice va vn vc) vn (ints xs)] }) (fun x => x.1 ≤ vn ∧ RC (then2 r (encTs (.ln vn :: toksI (xs.take x.1)))) x.2) (fun x => vn - x.1) (0, z1) ⟨Nat.zero_le _, hC1⟩ ⟨⟨rfl, rfl, rfl, trivial⟩, List.Sublist.refl _, fun f hf => hf, rfl⟩ ?_
    rintro ⟨i, zi⟩ ⟨hi, hCi⟩
    simp only at hi hCi ⊢
    refine J_seq ?_
    refine J_seq ?_
    refine J_region ?_
    refine L_v rfl rfl rfl (V_move rfl rfl) ?_
    refine L_v rfl rfl rfl (V_move rfl rfl) ?_
    refine L_v rfl rfl rfl (V_len rfl rfl Try.underlying22 rfl) ?_
    refine L_v rfl rfl rfl (V_lss rfl rfl rfl (by first | exact decide_eq_true (by omega) | exact decide_eq_false (by omega) | rfl)) ?_
    refine L_nil ?_
    change J _ _ _ _
    refine J_cond rfl (fun h1 => ?_) (fun h1 => ?_)
    ·
      first | (have h1 := of_decide_eq_true h1) | (have h1 := of_decide_eq_false h1) | skip
      refine J_skip ?_
      change J _ _ _ _
      refine J_seq ?_
      refine J_block ?_
      refine J_region ?_
      refine L_v rfl rfl rfl (V_move rfl rfl) ?_
      refine L_v rfl rfl rfl (V_move rfl rfl) ?_
      refine L_v rfl rfl rfl (V_move rfl rfl) ?_
      refine L_v rfl rfl rfl (V_indexC rfl rfl rfl Try.underlying22 sz3g (fun w hw => fC hw 0 rfl) (by omega) (by omega)) ?_
      refine L_v rfl rfl rfl (V_loadC rfl rfl Try.underlying3 rfl (fun w hw => fC hw 0 rfl) (ints_get (by omega))) ?_
      refine L_callRef (m1 := []) (m := RM b ((then2 r (encTs (.ln vn :: toksI (xs.take i))))) zi) (Ms := RM b (then2 (then2 r (encTs (.ln vn :: toksI (xs.take i)))) (encTs [.c (xs.getD i 0)]))) (C := RC (then2 (then2 r (encTs (.ln vn :: toksI (xs.take i)))) (encTs [.c (xs.getD i 0)]))) (val := .tuple #[]) rfl rfl rfl rfl rfl rfl tx66g rfl (fun w1 hw => rn_w b (then2 r (encTs (.ln vn :: toksI (xs.take i)))) zi (xs.getD i 0) w1 hw.memM hCi (RZ.step (RZ.le hsz (by simp only [List.length_cons, toksI_len, List.length_take]; omega)))) (fun z2 hC2 => ?_)
      refine L_nil ?_
      change J _ _ _ _
      refine J_region ?_
      refine L_v rfl rfl rfl (V_move rfl rfl) ?_
      refine L_v rfl rfl rfl (V_add rfl rfl rfl (by first | exact Go.IntWalk.i64_in _ (by omega) | rfl)) ?_
      refine L_v rfl rfl rfl (V_assign rfl rfl) ?_
      refine L_nil ?_
      exact ⟨(i + 1, z2), ⟨by show i + 1 ≤ vn; omega, by show RC (then2 r (encTs (.ln vn :: toksI (xs.take (i + 1))))) z2; rw [← toksI_step (by omega), ← then2_step]; exact hC2⟩, by show vn - (i + 1) < vn - i; omega, ⟨rfl, rfl, rfl, trivial⟩, (by show List.Sublist (RM b (then2 r (encTs (.ln vn :: toksI (xs.take (i + 1))))) z2) _; rw [← toksI_step (by omega), ← then2_step]; exact List.Sublist.refl _), fun f hf => hf, rfl⟩
    ·
      first | (have h1 := of_decide_eq_true h1) | (have h1 := of_decide_eq_false h1) | skip
      refine J_exit ?_
      change Kret _ _ _ Exit.normal _
      refine Kret_normal ?_
      refine ret0 rfl rfl  ?_
      obtain rfl : i = vn := by omega
      rw [List.take_of_length_le (by omega)] at hCi ⊢
      exact fun w' h => RefP.of zi h rfl hCi (List.Sublist.refl _)
  ·
    refine J_seq ?_
    refine J_seq ?_
    refine J_region ?_
    refine L_v rfl rfl rfl (V_move rfl rfl) ?_
    refine L_v rfl rfl rfl (V_move rfl rfl) ?_
    refine L_v rfl rfl rfl (V_len rfl rfl Try.underlying22 rfl) ?_
    refine L_callRef (m1 := []) (m := RM b (r) z) (Ms := RM b (then2 r (encTs [.ln vn]))) (C := RC (then2 r (encTs [.ln vn]))) (val := .bool false) rfl rfl rfl rfl rfl rfl tx91g rfl (fun w1 hw => (by have h9 := rmany_w b r z vn w1 hw.memM hC (RZ.le hsz (by omega)); rw [decide_eq_false hx] at h9; exact h9)) (fun z1 hC1 => ?_)
    refine L_v rfl rfl rfl (V_not rfl rfl rfl) ?_
    refine L_nil ?_
    change J _ _ _ _
    refine J_true rfl ?_
    refine J_ret ?_
    change Kret _ _ _ Exit.ret _
    refine ret0 rfl rfl  ?_
    have e8 : encTs (.ln vn :: toksI xs) = encTs [.ln vn] := by rw [lnI_no (r := toksI xs) hx, lnI_no (r := []) hx]
    rw [e8]
    exact fun w' h => RefP.of z1 h rfl hC1 (List.Sublist.refl _)

theorem cl_toks2 (x : Cl) : clC.tk x = (Tok.ln x.1.length :: toksI x.1) ++ (Tok.ln x.2.length :: toksI x.2) := by
  show (ls cC).tk x.1 ++ (ls cC).tk x.2 = _
  rw [cl_toks, cl_toks]
theorem rcl_w0 (b : Nat) (r : Except Int (List Int)) (z : OwnR × Value) (va1 va2 : Option Addr) (vc1 vc2 : Nat) (x : Cl) (w : World) (hM : MemAt w (RM b r z)) (hC : RC r z) (hfs : Fm (clF (.slice va1 x.1.length vc1) (.slice va2 x.2.length vc2) x) w (RM b r z)) (hsz : RZ r (65545 * (8194))) :
    Calls Try.prog 68 #[.pointer (some ⟨b, 0, none⟩), .agg (clV (.slice va1 x.1.length vc1) (.slice va2 x.2.length vc2)).toArray] w fun e w' => RP w b r z (then2 r (encTs (clC.tk x))) (.tuple #[]) e w' := by
  have hz0 : RZ r (65545 * 8194) := RZ.le hsz (by decide)
  refine calls_of (args := [.pointer (some ⟨b, 0, none⟩), .agg (clV (.slice va1 x.1.length vc1) (.slice va2 x.2.length vc2)).toArray]) ((RM b r z).map (·.1)) (RM b r z) (clF (.slice va1 x.1.length vc1) (.slice va2 x.2.length vc2) x) Try.func68 rfl rfl (okMem hM hfs) ?_
  refine J_seq ?_
  refine J_region ?_
  refine L_box rfl rfl rfl rfl rfl (fun b0 => ?_)
  refine L_pk ([(b0, row 24 (clV (.slice va1 x.1.length vc1) (.slice va2 x.2.length vc2)))] ++ RM b r z) (Pk.of_perm List.perm_append_comm (List.Sublist.refl _)) ?_
  refine L_nil ?_
  change J _ _ _ _
  refine J_seq ?_
  refine J_region ?_
  refine L_v rfl rfl rfl (V_move rfl rfl) ?_
  refine L_v rfl rfl rfl (V_fieldAddr rfl rfl Try.underlying24 rfl sz22g rfl) ?_
  refine L_v rfl rfl rfl (V_load1 0 rfl rfl rfl Try.underlying22 rfl (by first | rfl | exact dg_get (by omega) (by omega))) ?_
  refine L_callRef (m1 := [(b0, row 24 (clV (.slice va1 x.1.length vc1) (.slice va2 x.2.length vc2)))]) (m := RM b (r) z) (Ms := RM b (then2 (r) (encTs ((Tok.ln x.1.length :: toksI x.1))))) (C := RC (then2 (r) (encTs ((Tok.ln x.1.length :: toksI x.1))))) (val := .tuple #[]) rfl rfl rfl rfl rfl rfl tx83g rfl (fun w1 hw => rints_w b (r) z va1 x.1.length vc1 x.1 w1 hw.memM hC rfl (fun f hf => hw.factsM f (by obtain rfl := List.mem_singleton.1 hf; exact List.mem_cons_self ..)) (RZ.le hz0 (by decide))) (fun z1 hC1 => ?_)
  have hz1 : RZ (then2 (r) (encTs ((Tok.ln x.1.length :: toksI x.1)))) (65545 * 4097) := RZ.stepB (m := 4097) (RZ.le hz0 (by decide)) (fun M h => by rw [← cl_toks] at h; exact encTs_lenI h)
  refine L_nil ?_
  change J _ _ _ _
  refine J_region ?_
  refine L_v rfl rfl rfl (V_move rfl rfl) ?_
  refine L_v rfl rfl rfl (V_fieldAddr rfl rfl Try.underlying24 rfl sz22g rfl) ?_
  refine L_v rfl rfl rfl (V_load1 0 rfl rfl rfl Try.underlying22 rfl (by first | rfl | exact dg_get (by omega) (by omega))) ?_
  refine L_callRef (m1 := [(b0, row 24 (clV (.slice va1 x.1.length vc1) (.slice va2 x.2.length vc2)))]) (m := RM b (then2 (r) (encTs ((Tok.ln x.1.length :: toksI x.1)))) z1) (Ms := RM b (then2 (then2 (r) (encTs ((Tok.ln x.1.length :: toksI x.1)))) (encTs ((Tok.ln x.2.length :: toksI x.2))))) (C := RC (then2 (then2 (r) (encTs ((Tok.ln x.1.length :: toksI x.1)))) (encTs ((Tok.ln x.2.length :: toksI x.2))))) (val := .tuple #[]) rfl rfl rfl rfl rfl rfl tx83g rfl (fun w1 hw => rints_w b (then2 (r) (encTs ((Tok.ln x.1.length :: toksI x.1)))) z1 va2 x.2.length vc2 x.2 w1 hw.memM hC1 rfl (fun f hf => hw.factsM f (by obtain rfl := List.mem_singleton.1 hf; exact List.mem_cons_of_mem _ (List.mem_cons_self ..))) (RZ.le hz1 (by decide))) (fun z2 hC2 => ?_)
  refine L_nil ?_
  change Kret _ _ _ Exit.normal _
  refine Kret_normal ?_
  refine ret0 rfl rfl  ?_
  have e9 : then2 (then2 (r) (encTs ((Tok.ln x.1.length :: toksI x.1)))) (encTs ((Tok.ln x.2.length :: toksI x.2))) = then2 r (encTs (clC.tk x)) := by
    rw [cl_toks2 x]
    simp only [encTs_app, then2_assoc]
  exact fun w' h => by rw [← e9]; exact RefP.of z2 h rfl hC2 (List.sublist_append_right _ _)

theorem rcl_w (b : Nat) (r : Except Int (List Int)) (z : OwnR × Value) (v1 v2 : Value) (x : Cl) (w : World) (hM : MemAt w (RM b r z)) (hC : RC r z) (hfs : Fm (clF v1 v2 x) w (RM b r z)) (hsz : RZ r (65545 * (8194))) :
    Calls Try.prog 68 #[.pointer (some ⟨b, 0, none⟩), .agg (clV v1 v2).toArray] w (RP w b r z (then2 r (encTs (clC.tk x))) (.tuple #[])) := by
  obtain ⟨va1, vc1, rfl⟩ := SlC.form (hfs _ (List.mem_cons_self ..)).1
  obtain ⟨va2, vc2, rfl⟩ := SlC.form (hfs _ (List.mem_cons_of_mem _ (List.mem_cons_self ..))).1
  exact rcl_w0 b r z va1 va2 vc1 vc2 x w hM hC hfs hsz

theorem rent_w (b : Nat) (r : Except Int (List Int)) (z : OwnR × Value) (v1 v2 : Value) (x : En) (w : World) (hM : MemAt w (RM b r z)) (hC : RC r z) (hfs : Fm (clF v1 v2 x.2.2.2.2) w (RM b r z)) (hsz : RZ r (65545 * (8204))) :
    Calls Try.prog 67 #[.pointer (some ⟨b, 0, none⟩), .agg (enV x v1 v2).toArray] w fun e w' => RP w b r z (then2 r (encTs (enC.tk x))) (.tuple #[]) e w' := by
  have hz0 : RZ r (65545 * 8204) := RZ.le hsz (by decide)
  refine calls_of (args := [.pointer (some ⟨b, 0, none⟩), .agg (enV x v1 v2).toArray]) ((RM b r z).map (·.1)) (RM b r z) (clF v1 v2 x.2.2.2.2) Try.func67 rfl rfl (okMem hM hfs) ?_
  refine J_seq ?_
  refine J_region ?_
  refine L_box rfl rfl rfl rfl rfl (fun b0 => ?_)
  refine L_pk ([(b0, row 39 (enV x v1 v2))] ++ RM b r z) (Pk.of_perm List.perm_append_comm (List.Sublist.refl _)) ?_
  refine L_nil ?_
  change J _ _ _ _
  refine J_seq ?_
  refine J_region ?_
  refine L_v rfl rfl rfl (V_move rfl rfl) ?_
  refine L_v rfl rfl rfl (V_fieldAddr rfl rfl Try.underlying39 rfl sz3g rfl) ?_
  refine L_v rfl rfl rfl (V_load1 0 rfl rfl rfl Try.underlying3 rfl (by first | rfl | exact dg_get (by omega) (by omega))) ?_
  refine L_callRef (m1 := [(b0, row 39 (enV x v1 v2))]) (m := RM b (r) z) (Ms := RM b (then2 (r) (encTs ([Tok.c (x.1)])))) (C := RC (then2 (r) (encTs ([Tok.c (x.1)])))) (val := .tuple #[]) rfl rfl rfl rfl rfl rfl tx66g rfl (fun w1 hw => rn_w b (r) z (x.1) w1 hw.memM hC (RZ.le hz0 (by decide))) (fun z1 hC1 => ?_)
  have hz1 : RZ (then2 (r) (encTs ([Tok.c (x.1)]))) (65545 * 8203) := RZ.stepB (m := 1) (RZ.le hz0 (by decide)) (fun M h => encTs_len h)
  refine L_nil ?_
  change J _ _ _ _
  refine J_seq ?_
  refine J_region ?_
  refine L_v rfl rfl rfl (V_move rfl rfl) ?_
  refine L_v rfl rfl rfl (V_fieldAddr rfl rfl Try.underlying39 rfl sz3g rfl) ?_
  refine L_v rfl rfl rfl (V_load1 0 rfl rfl rfl Try.underlying3 rfl (by first | rfl | exact dg_get (by omega) (by omega))) ?_
  refine L_callRef (m1 := [(b0, row 39 (enV x v1 v2))]) (m := RM b (then2 (r) (encTs ([Tok.c (x.1)]))) z1) (Ms := RM b (then2 (then2 (r) (encTs ([Tok.c (x.1)]))) (encTs ([Tok.c (x.2.1)])))) (C := RC (then2 (then2 (r) (encTs ([Tok.c (x.1)]))) (encTs ([Tok.c (x.2.1)])))) (val := .tuple #[]) rfl rfl rfl rfl rfl rfl tx66g rfl (fun w1 hw => rn_w b (then2 (r) (encTs ([Tok.c (x.1)]))) z1 (x.2.1) w1 hw.memM hC1 (RZ.le hz1 (by decide))) (fun z2 hC2 => ?_)
  have hz2 : RZ (then2 (then2 (r) (encTs ([Tok.c (x.1)]))) (encTs ([Tok.c (x.2.1)]))) (65545 * 8202) := RZ.stepB (m := 1) (RZ.le hz1 (by decide)) (fun M h => encTs_len h)
  refine L_nil ?_
  change J _ _ _ _
  refine J_seq ?_
  refine J_region ?_
  refine L_v rfl rfl rfl (V_move rfl rfl) ?_
  refine L_v rfl rfl rfl (V_fieldAddr rfl rfl Try.underlying39 rfl sz32g rfl) ?_
  refine L_v rfl rfl rfl (V_load1 0 rfl rfl rfl Try.underlying32 rfl (by first | rfl | exact dg_get (by omega) (by omega))) ?_
  refine L_callRef (m1 := [(b0, row 39 (enV x v1 v2))]) (m := RM b (then2 (then2 (r) (encTs ([Tok.c (x.1)]))) (encTs ([Tok.c (x.2.1)]))) z2) (Ms := RM b (then2 (then2 (then2 (r) (encTs ([Tok.c (x.1)]))) (encTs ([Tok.c (x.2.1)]))) (encTs ([Tok.c (x.2.2.1)])))) (C := RC (then2 (then2 (then2 (r) (encTs ([Tok.c (x.1)]))) (encTs ([Tok.c (x.2.1)]))) (encTs ([Tok.c (x.2.2.1)])))) (val := .tuple #[]) rfl rfl rfl rfl rfl rfl tx66g rfl (fun w1 hw => rn_w b (then2 (then2 (r) (encTs ([Tok.c (x.1)]))) (encTs ([Tok.c (x.2.1)]))) z2 (x.2.2.1) w1 hw.memM hC2 (RZ.le hz2 (by decide))) (fun z3 hC3 => ?_)
  have hz3 : RZ (then2 (then2 (then2 (r) (encTs ([Tok.c (x.1)]))) (encTs ([Tok.c (x.2.1)]))) (encTs ([Tok.c (x.2.2.1)]))) (65545 * 8201) := RZ.stepB (m := 1) (RZ.le hz2 (by decide)) (fun M h => encTs_len h)
  refine L_nil ?_
  change J _ _ _ _
  refine J_seq ?_
  refine J_region ?_
  refine L_v rfl rfl rfl (V_move rfl rfl) ?_
  refine L_v rfl rfl rfl (V_fieldAddr rfl rfl Try.underlying39 rfl sz37g rfl) ?_
  refine L_v rfl rfl rfl (V_loadT 0 (vs := cmdV x.2.2.2.1) rfl rfl rfl Try.underlying37 rfl sz37g rfl rfl) ?_
  refine L_callRef (m1 := [(b0, row 39 (enV x v1 v2))]) (m := RM b (then2 (then2 (then2 (r) (encTs ([Tok.c (x.1)]))) (encTs ([Tok.c (x.2.1)]))) (encTs ([Tok.c (x.2.2.1)]))) z3) (Ms := RM b (then2 (then2 (then2 (then2 (r) (encTs ([Tok.c (x.1)]))) (encTs ([Tok.c (x.2.1)]))) (encTs ([Tok.c (x.2.2.1)]))) (encTs (cmdC.tk x.2.2.2.1)))) (C := RC (then2 (then2 (then2 (then2 (r) (encTs ([Tok.c (x.1)]))) (encTs ([Tok.c (x.2.1)]))) (encTs ([Tok.c (x.2.2.1)]))) (encTs (cmdC.tk x.2.2.2.1)))) (val := .tuple #[]) rfl rfl rfl rfl rfl rfl tx82g rfl (fun w1 hw => rcmd_w b (then2 (then2 (then2 (r) (encTs ([Tok.c (x.1)]))) (encTs ([Tok.c (x.2.1)]))) (encTs ([Tok.c (x.2.2.1)]))) z3 x.2.2.2.1 w1 hw.memM hC3 (RZ.le hz3 (by decide))) (fun z4 hC4 => ?_)
  have hz4 : RZ (then2 (then2 (then2 (then2 (r) (encTs ([Tok.c (x.1)]))) (encTs ([Tok.c (x.2.1)]))) (encTs ([Tok.c (x.2.2.1)]))) (encTs (cmdC.tk x.2.2.2.1))) (65545 * 8194) := RZ.stepB (m := 7) (RZ.le hz3 (by decide)) (fun M h => encTs_len h)
  refine L_nil ?_
  change J _ _ _ _
  refine J_region ?_
  refine L_v rfl rfl rfl (V_move rfl rfl) ?_
  refine L_v rfl rfl rfl (V_fieldAddr rfl rfl Try.underlying39 rfl sz24g rfl) ?_
  refine L_v rfl rfl rfl (V_loadT 0 (vs := clV v1 v2) rfl rfl rfl Try.underlying24 rfl sz24g rfl rfl) ?_
  refine L_callRef (m1 := [(b0, row 39 (enV x v1 v2))]) (m := RM b (then2 (then2 (then2 (then2 (r) (encTs ([Tok.c (x.1)]))) (encTs ([Tok.c (x.2.1)]))) (encTs ([Tok.c (x.2.2.1)]))) (encTs (cmdC.tk x.2.2.2.1))) z4) (Ms := RM b (then2 (then2 (then2 (then2 (then2 (r) (encTs ([Tok.c (x.1)]))) (encTs ([Tok.c (x.2.1)]))) (encTs ([Tok.c (x.2.2.1)]))) (encTs (cmdC.tk x.2.2.2.1))) (encTs (clC.tk x.2.2.2.2)))) (C := RC (then2 (then2 (then2 (then2 (then2 (r) (encTs ([Tok.c (x.1)]))) (encTs ([Tok.c (x.2.1)]))) (encTs ([Tok.c (x.2.2.1)]))) (encTs (cmdC.tk x.2.2.2.1))) (encTs (clC.tk x.2.2.2.2)))) (val := .tuple #[]) rfl rfl rfl rfl rfl rfl tx68g rfl (fun w1 hw => rcl_w b (then2 (then2 (then2 (then2 (r) (encTs ([Tok.c (x.1)]))) (encTs ([Tok.c (x.2.1)]))) (encTs ([Tok.c (x.2.2.1)]))) (encTs (cmdC.tk x.2.2.2.1))) z4 v1 v2 x.2.2.2.2 w1 hw.memM hC4 hw.factsM (RZ.le hz4 (by decide))) (fun z5 hC5 => ?_)
  refine L_nil ?_
  change Kret _ _ _ Exit.normal _
  refine Kret_normal ?_
  refine ret0 rfl rfl  ?_
  have e9 : then2 (then2 (then2 (then2 (then2 (r) (encTs ([Tok.c (x.1)]))) (encTs ([Tok.c (x.2.1)]))) (encTs ([Tok.c (x.2.2.1)]))) (encTs (cmdC.tk x.2.2.2.1))) (encTs (clC.tk x.2.2.2.2)) = then2 r (encTs (enC.tk x)) := by
    rw [show enC.tk x = [Tok.c (x.1)] ++ ([Tok.c (x.2.1)] ++ ([Tok.c (x.2.2.1)] ++ (cmdC.tk x.2.2.2.1 ++ (clC.tk x.2.2.2.2)))) from rfl]
    simp only [encTs_app, then2_assoc]
  exact fun w' h => by rw [← e9]; exact RefP.of z5 h rfl hC5 (List.sublist_append_right _ _)

theorem rrec_w (b : Nat) (r : Except Int (List Int)) (z : OwnR × Value) (v1 v2 v3 v4 : Value) (x : Rec) (w : World) (hM : MemAt w (RM b r z)) (hC : RC r z) (hfs : Fm ((clF v1 v2 x.2.2.2.1.2.2.2.2 ++ clF v3 v4 x.2.2.2.2.2.1.2.2.1)) w (RM b r z)) (hsz : RZ r (65545 * (16410))) :
    Calls Try.prog 51 #[.pointer (some ⟨b, 0, none⟩), .agg (recV x v1 v2 v3 v4).toArray] w fun e w' => RP w b r z (then2 r (encTs (recC.tk x))) (.tuple #[]) e w' := by
  have hz0 : RZ r (65545 * 16409) := RZ.le hsz (by decide)
  refine calls_of (args := [.pointer (some ⟨b, 0, none⟩), .agg (recV x v1 v2 v3 v4).toArray]) ((RM b r z).map (·.1)) (RM b r z) ((clF v1 v2 x.2.2.2.1.2.2.2.2 ++ clF v3 v4 x.2.2.2.2.2.1.2.2.1)) Try.func51 rfl rfl (okMem hM hfs) ?_
  refine J_seq ?_
  refine J_region ?_
  refine L_box rfl rfl rfl rfl rfl (fun b0 => ?_)
  refine L_pk ([(b0, row 45 (recV x v1 v2 v3 v4))] ++ RM b r z) (Pk.of_perm List.perm_append_comm (List.Sublist.refl _)) ?_
  refine L_nil ?_
  change J _ _ _ _
  refine J_seq ?_
  refine J_region ?_
  refine L_v rfl rfl rfl (V_move rfl rfl) ?_
  refine L_v rfl rfl rfl (V_fieldAddr rfl rfl Try.underlying45 rfl sz31g rfl) ?_
  refine L_v rfl rfl rfl (V_load1 0 rfl rfl rfl Try.underlying31 rfl (by first | rfl | exact dg_get (by omega) (by omega))) ?_
  refine L_callRef (m1 := [(b0, row 45 (recV x v1 v2 v3 v4))]) (m := RM b (r) z) (Ms := RM b (then2 (r) (encTs ([Tok.c (x.1)])))) (C := RC (then2 (r) (encTs ([Tok.c (x.1)])))) (val := .tuple #[]) rfl rfl rfl rfl rfl rfl tx66g rfl (fun w1 hw => rn_w b (r) z (x.1) w1 hw.memM hC (RZ.le hz0 (by decide))) (fun z1 hC1 => ?_)
  have hz1 : RZ (then2 (r) (encTs ([Tok.c (x.1)]))) (65545 * 16408) := RZ.stepB (m := 1) (RZ.le hz0 (by decide)) (fun M h => encTs_len h)
  refine L_nil ?_
  change J _ _ _ _
  refine J_seq ?_
  refine J_region ?_
  refine L_v rfl rfl rfl (V_move rfl rfl) ?_
  refine L_v rfl rfl rfl (V_fieldAddr rfl rfl Try.underlying45 rfl sz3g rfl) ?_
  refine L_v rfl rfl rfl (V_load1 0 rfl rfl rfl Try.underlying3 rfl (by first | rfl | exact dg_get (by omega) (by omega))) ?_
  refine L_callRef (m1 := [(b0, row 45 (recV x v1 v2 v3 v4))]) (m := RM b (then2 (r) (encTs ([Tok.c (x.1)]))) z1) (Ms := RM b (then2 (then2 (r) (encTs ([Tok.c (x.1)]))) (encTs ([Tok.c (x.2.1)])))) (C := RC (then2 (then2 (r) (encTs ([Tok.c (x.1)]))) (encTs ([Tok.c (x.2.1)])))) (val := .tuple #[]) rfl rfl rfl rfl rfl rfl tx66g rfl (fun w1 hw => rn_w b (then2 (r) (encTs ([Tok.c (x.1)]))) z1 (x.2.1) w1 hw.memM hC1 (RZ.le hz1 (by decide))) (fun z2 hC2 => ?_)
  have hz2 : RZ (then2 (then2 (r) (encTs ([Tok.c (x.1)]))) (encTs ([Tok.c (x.2.1)]))) (65545 * 16407) := RZ.stepB (m := 1) (RZ.le hz1 (by decide)) (fun M h => encTs_len h)
  refine L_nil ?_
  change J _ _ _ _
  refine J_seq ?_
  refine J_region ?_
  refine L_v rfl rfl rfl (V_move rfl rfl) ?_
  refine L_v rfl rfl rfl (V_fieldAddr rfl rfl Try.underlying45 rfl sz3g rfl) ?_
  refine L_v rfl rfl rfl (V_load1 0 rfl rfl rfl Try.underlying3 rfl (by first | rfl | exact dg_get (by omega) (by omega))) ?_
  refine L_callRef (m1 := [(b0, row 45 (recV x v1 v2 v3 v4))]) (m := RM b (then2 (then2 (r) (encTs ([Tok.c (x.1)]))) (encTs ([Tok.c (x.2.1)]))) z2) (Ms := RM b (then2 (then2 (then2 (r) (encTs ([Tok.c (x.1)]))) (encTs ([Tok.c (x.2.1)]))) (encTs ([Tok.c (x.2.2.1)])))) (C := RC (then2 (then2 (then2 (r) (encTs ([Tok.c (x.1)]))) (encTs ([Tok.c (x.2.1)]))) (encTs ([Tok.c (x.2.2.1)])))) (val := .tuple #[]) rfl rfl rfl rfl rfl rfl tx66g rfl (fun w1 hw => rn_w b (then2 (then2 (r) (encTs ([Tok.c (x.1)]))) (encTs ([Tok.c (x.2.1)]))) z2 (x.2.2.1) w1 hw.memM hC2 (RZ.le hz2 (by decide))) (fun z3 hC3 => ?_)
  have hz3 : RZ (then2 (then2 (then2 (r) (encTs ([Tok.c (x.1)]))) (encTs ([Tok.c (x.2.1)]))) (encTs ([Tok.c (x.2.2.1)]))) (65545 * 16406) := RZ.stepB (m := 1) (RZ.le hz2 (by decide)) (fun M h => encTs_len h)
  refine L_nil ?_
  change J _ _ _ _
  refine J_seq ?_
  refine J_region ?_
  refine L_v rfl rfl rfl (V_move rfl rfl) ?_
  refine L_v rfl rfl rfl (V_fieldAddr rfl rfl Try.underlying45 rfl sz39g rfl) ?_
  refine L_v rfl rfl rfl (V_loadT 0 (vs := enV x.2.2.2.1 v1 v2) rfl rfl rfl Try.underlying39 rfl sz39g rfl rfl) ?_
  refine L_callRef (m1 := [(b0, row 45 (recV x v1 v2 v3 v4))]) (m := RM b (then2 (then2 (then2 (r) (encTs ([Tok.c (x.1)]))) (encTs ([Tok.c (x.2.1)]))) (encTs ([Tok.c (x.2.2.1)]))) z3) (Ms := RM b (then2 (then2 (then2 (then2 (r) (encTs ([Tok.c (x.1)]))) (encTs ([Tok.c (x.2.1)]))) (encTs ([Tok.c (x.2.2.1)]))) (encTs (enC.tk x.2.2.2.1)))) (C := RC (then2 (then2 (then2 (then2 (r) (encTs ([Tok.c (x.1)]))) (encTs ([Tok.c (x.2.1)]))) (encTs ([Tok.c (x.2.2.1)]))) (encTs (enC.tk x.2.2.2.1)))) (val := .tuple #[]) rfl rfl rfl rfl rfl rfl tx67g rfl (fun w1 hw => rent_w b (then2 (then2 (then2 (r) (encTs ([Tok.c (x.1)]))) (encTs ([Tok.c (x.2.1)]))) (encTs ([Tok.c (x.2.2.1)]))) z3 v1 v2 x.2.2.2.1 w1 hw.memM hC3 (fun f hf => hw.factsM f (List.mem_append_left _ hf)) (RZ.le hz3 (by decide))) (fun z4 hC4 => ?_)
  have hz4 : RZ (then2 (then2 (then2 (then2 (r) (encTs ([Tok.c (x.1)]))) (encTs ([Tok.c (x.2.1)]))) (encTs ([Tok.c (x.2.2.1)]))) (encTs (enC.tk x.2.2.2.1))) (65545 * 8202) := RZ.stepB (m := 8204) (RZ.le hz3 (by decide)) (fun M h => encTs_lenE h)
  refine L_nil ?_
  change J _ _ _ _
  refine J_seq ?_
  refine J_region ?_
  refine L_v rfl rfl rfl (V_move rfl rfl) ?_
  refine L_v rfl rfl rfl (V_fieldAddr rfl rfl Try.underlying45 rfl sz3g rfl) ?_
  refine L_v rfl rfl rfl (V_load1 0 rfl rfl rfl Try.underlying3 rfl (by first | rfl | exact dg_get (by omega) (by omega))) ?_
  refine L_callRef (m1 := [(b0, row 45 (recV x v1 v2 v3 v4))]) (m := RM b (then2 (then2 (then2 (then2 (r) (encTs ([Tok.c (x.1)]))) (encTs ([Tok.c (x.2.1)]))) (encTs ([Tok.c (x.2.2.1)]))) (encTs (enC.tk x.2.2.2.1))) z4) (Ms := RM b (then2 (then2 (then2 (then2 (then2 (r) (encTs ([Tok.c (x.1)]))) (encTs ([Tok.c (x.2.1)]))) (encTs ([Tok.c (x.2.2.1)]))) (encTs (enC.tk x.2.2.2.1))) (encTs ([Tok.c (x.2.2.2.2.1)])))) (C := RC (then2 (then2 (then2 (then2 (then2 (r) (encTs ([Tok.c (x.1)]))) (encTs ([Tok.c (x.2.1)]))) (encTs ([Tok.c (x.2.2.1)]))) (encTs (enC.tk x.2.2.2.1))) (encTs ([Tok.c (x.2.2.2.2.1)])))) (val := .tuple #[]) rfl rfl rfl rfl rfl rfl tx66g rfl (fun w1 hw => rn_w b (then2 (then2 (then2 (then2 (r) (encTs ([Tok.c (x.1)]))) (encTs ([Tok.c (x.2.1)]))) (encTs ([Tok.c (x.2.2.1)]))) (encTs (enC.tk x.2.2.2.1))) z4 (x.2.2.2.2.1) w1 hw.memM hC4 (RZ.le hz4 (by decide))) (fun z5 hC5 => ?_)
  have hz5 : RZ (then2 (then2 (then2 (then2 (then2 (r) (encTs ([Tok.c (x.1)]))) (encTs ([Tok.c (x.2.1)]))) (encTs ([Tok.c (x.2.2.1)]))) (encTs (enC.tk x.2.2.2.1))) (encTs ([Tok.c (x.2.2.2.2.1)]))) (65545 * 8201) := RZ.stepB (m := 1) (RZ.le hz4 (by decide)) (fun M h => encTs_len h)
  refine L_nil ?_
  change J _ _ _ _
  refine J_seq ?_
  refine J_region ?_
  refine L_v rfl rfl rfl (V_move rfl rfl) ?_
  refine L_v rfl rfl rfl (V_fieldAddr rfl rfl Try.underlying45 rfl sz26g rfl) ?_
  refine L_v rfl rfl rfl (V_fieldAddr rfl rfl Try.underlying26 rfl sz3g rfl) ?_
  refine L_v rfl rfl rfl (V_load1 0 rfl rfl rfl Try.underlying3 rfl (by first | rfl | exact dg_get (by omega) (by omega))) ?_
  refine L_callRef (m1 := [(b0, row 45 (recV x v1 v2 v3 v4))]) (m := RM b (then2 (then2 (then2 (then2 (then2 (r) (encTs ([Tok.c (x.1)]))) (encTs ([Tok.c (x.2.1)]))) (encTs ([Tok.c (x.2.2.1)]))) (encTs (enC.tk x.2.2.2.1))) (encTs ([Tok.c (x.2.2.2.2.1)]))) z5) (Ms := RM b (then2 (then2 (then2 (then2 (then2 (then2 (r) (encTs ([Tok.c (x.1)]))) (encTs ([Tok.c (x.2.1)]))) (encTs ([Tok.c (x.2.2.1)]))) (encTs (enC.tk x.2.2.2.1))) (encTs ([Tok.c (x.2.2.2.2.1)]))) (encTs ([Tok.c (x.2.2.2.2.2.1.1)])))) (C := RC (then2 (then2 (then2 (then2 (then2 (then2 (r) (encTs ([Tok.c (x.1)]))) (encTs ([Tok.c (x.2.1)]))) (encTs ([Tok.c (x.2.2.1)]))) (encTs (enC.tk x.2.2.2.1))) (encTs ([Tok.c (x.2.2.2.2.1)]))) (encTs ([Tok.c (x.2.2.2.2.2.1.1)])))) (val := .tuple #[]) rfl rfl rfl rfl rfl rfl tx66g rfl (fun w1 hw => rn_w b (then2 (then2 (then2 (then2 (then2 (r) (encTs ([Tok.c (x.1)]))) (encTs ([Tok.c (x.2.1)]))) (encTs ([Tok.c (x.2.2.1)]))) (encTs (enC.tk x.2.2.2.1))) (encTs ([Tok.c (x.2.2.2.2.1)]))) z5 (x.2.2.2.2.2.1.1) w1 hw.memM hC5 (RZ.le hz5 (by decide))) (fun z6 hC6 => ?_)
  have hz6 : RZ (then2 (then2 (then2 (then2 (then2 (then2 (r) (encTs ([Tok.c (x.1)]))) (encTs ([Tok.c (x.2.1)]))) (encTs ([Tok.c (x.2.2.1)]))) (encTs (enC.tk x.2.2.2.1))) (encTs ([Tok.c (x.2.2.2.2.1)]))) (encTs ([Tok.c (x.2.2.2.2.2.1.1)]))) (65545 * 8200) := RZ.stepB (m := 1) (RZ.le hz5 (by decide)) (fun M h => encTs_len h)
  refine L_nil ?_
  change J _ _ _ _
  refine J_seq ?_
  refine J_region ?_
  refine L_v rfl rfl rfl (V_move rfl rfl) ?_
  refine L_v rfl rfl rfl (V_fieldAddr rfl rfl Try.underlying45 rfl sz26g rfl) ?_
  refine L_v rfl rfl rfl (V_fieldAddr rfl rfl Try.underlying26 rfl sz3g rfl) ?_
  refine L_v rfl rfl rfl (V_load1 0 rfl rfl rfl Try.underlying3 rfl (by first | rfl | exact dg_get (by omega) (by omega))) ?_
  refine L_callRef (m1 := [(b0, row 45 (recV x v1 v2 v3 v4))]) (m := RM b (then2 (then2 (then2 (then2 (then2 (then2 (r) (encTs ([Tok.c (x.1)]))) (encTs ([Tok.c (x.2.1)]))) (encTs ([Tok.c (x.2.2.1)]))) (encTs (enC.tk x.2.2.2.1))) (encTs ([Tok.c (x.2.2.2.2.1)]))) (encTs ([Tok.c (x.2.2.2.2.2.1.1)]))) z6) (Ms := RM b (then2 (then2 (then2 (then2 (then2 (then2 (then2 (r) (encTs ([Tok.c (x.1)]))) (encTs ([Tok.c (x.2.1)]))) (encTs ([Tok.c (x.2.2.1)]))) (encTs (enC.tk x.2.2.2.1))) (encTs ([Tok.c (x.2.2.2.2.1)]))) (encTs ([Tok.c (x.2.2.2.2.2.1.1)]))) (encTs ([Tok.c (x.2.2.2.2.2.1.2.1)])))) (C := RC (then2 (then2 (then2 (then2 (then2 (then2 (then2 (r) (encTs ([Tok.c (x.1)]))) (encTs ([Tok.c (x.2.1)]))) (encTs ([Tok.c (x.2.2.1)]))) (encTs (enC.tk x.2.2.2.1))) (encTs ([Tok.c (x.2.2.2.2.1)]))) (encTs ([Tok.c (x.2.2.2.2.2.1.1)]))) (encTs ([Tok.c (x.2.2.2.2.2.1.2.1)])))) (val := .tuple #[]) rfl rfl rfl rfl rfl rfl tx66g rfl (fun w1 hw => rn_w b (then2 (then2 (then2 (then2 (then2 (then2 (r) (encTs ([Tok.c (x.1)]))) (encTs ([Tok.c (x.2.1)]))) (encTs ([Tok.c (x.2.2.1)]))) (encTs (enC.tk x.2.2.2.1))) (encTs ([Tok.c (x.2.2.2.2.1)]))) (encTs ([Tok.c (x.2.2.2.2.2.1.1)]))) z6 (x.2.2.2.2.2.1.2.1) w1 hw.memM hC6 (RZ.le hz6 (by decide))) (fun z7 hC7 => ?_)
  have hz7 : RZ (then2 (then2 (then2 (then2 (then2 (then2 (then2 (r) (encTs ([Tok.c (x.1)]))) (encTs ([Tok.c (x.2.1)]))) (encTs ([Tok.c (x.2.2.1)]))) (encTs (enC.tk x.2.2.2.1))) (encTs ([Tok.c (x.2.2.2.2.1)]))) (encTs ([Tok.c (x.2.2.2.2.2.1.1)]))) (encTs ([Tok.c (x.2.2.2.2.2.1.2.1)]))) (65545 * 8199) := RZ.stepB (m := 1) (RZ.le hz6 (by decide)) (fun M h => encTs_len h)
  refine L_nil ?_
  change J _ _ _ _
  refine J_seq ?_
  refine J_region ?_
  refine L_v rfl rfl rfl (V_move rfl rfl) ?_
  refine L_v rfl rfl rfl (V_fieldAddr rfl rfl Try.underlying45 rfl sz26g rfl) ?_
  refine L_v rfl rfl rfl (V_fieldAddr rfl rfl Try.underlying26 rfl sz24g rfl) ?_
  refine L_v rfl rfl rfl (V_loadT 0 (vs := clV v3 v4) rfl rfl rfl Try.underlying24 rfl sz24g rfl rfl) ?_
  refine L_callRef (m1 := [(b0, row 45 (recV x v1 v2 v3 v4))]) (m := RM b (then2 (then2 (then2 (then2 (then2 (then2 (then2 (r) (encTs ([Tok.c (x.1)]))) (encTs ([Tok.c (x.2.1)]))) (encTs ([Tok.c (x.2.2.1)]))) (encTs (enC.tk x.2.2.2.1))) (encTs ([Tok.c (x.2.2.2.2.1)]))) (encTs ([Tok.c (x.2.2.2.2.2.1.1)]))) (encTs ([Tok.c (x.2.2.2.2.2.1.2.1)]))) z7) (Ms := RM b (then2 (then2 (then2 (then2 (then2 (then2 (then2 (then2 (r) (encTs ([Tok.c (x.1)]))) (encTs ([Tok.c (x.2.1)]))) (encTs ([Tok.c (x.2.2.1)]))) (encTs (enC.tk x.2.2.2.1))) (encTs ([Tok.c (x.2.2.2.2.1)]))) (encTs ([Tok.c (x.2.2.2.2.2.1.1)]))) (encTs ([Tok.c (x.2.2.2.2.2.1.2.1)]))) (encTs (clC.tk x.2.2.2.2.2.1.2.2.1)))) (C := RC (then2 (then2 (then2 (then2 (then2 (then2 (then2 (then2 (r) (encTs ([Tok.c (x.1)]))) (encTs ([Tok.c (x.2.1)]))) (encTs ([Tok.c (x.2.2.1)]))) (encTs (enC.tk x.2.2.2.1))) (encTs ([Tok.c (x.2.2.2.2.1)]))) (encTs ([Tok.c (x.2.2.2.2.2.1.1)]))) (encTs ([Tok.c (x.2.2.2.2.2.1.2.1)]))) (encTs (clC.tk x.2.2.2.2.2.1.2.2.1)))) (val := .tuple #[]) rfl rfl rfl rfl rfl rfl tx68g rfl (fun w1 hw => rcl_w b (then2 (then2 (then2 (then2 (then2 (then2 (then2 (r) (encTs ([Tok.c (x.1)]))) (encTs ([Tok.c (x.2.1)]))) (encTs ([Tok.c (x.2.2.1)]))) (encTs (enC.tk x.2.2.2.1))) (encTs ([Tok.c (x.2.2.2.2.1)]))) (encTs ([Tok.c (x.2.2.2.2.2.1.1)]))) (encTs ([Tok.c (x.2.2.2.2.2.1.2.1)]))) z7 v3 v4 x.2.2.2.2.2.1.2.2.1 w1 hw.memM hC7 (fun f hf => hw.factsM f (List.mem_append_right _ hf)) (RZ.le hz7 (by decide))) (fun z8 hC8 => ?_)
  have hz8 : RZ (then2 (then2 (then2 (then2 (then2 (then2 (then2 (then2 (r) (encTs ([Tok.c (x.1)]))) (encTs ([Tok.c (x.2.1)]))) (encTs ([Tok.c (x.2.2.1)]))) (encTs (enC.tk x.2.2.2.1))) (encTs ([Tok.c (x.2.2.2.2.1)]))) (encTs ([Tok.c (x.2.2.2.2.2.1.1)]))) (encTs ([Tok.c (x.2.2.2.2.2.1.2.1)]))) (encTs (clC.tk x.2.2.2.2.2.1.2.2.1))) (65545 * 5) := RZ.stepB (m := 8194) (RZ.le hz7 (by decide)) (fun M h => encTs_lenC h)
  refine L_nil ?_
  change J _ _ _ _
  refine J_seq ?_
  refine J_region ?_
  refine L_v rfl rfl rfl (V_move rfl rfl) ?_
  refine L_v rfl rfl rfl (V_fieldAddr rfl rfl Try.underlying45 rfl sz26g rfl) ?_
  refine L_v rfl rfl rfl (V_fieldAddr rfl rfl Try.underlying26 rfl sz9g rfl) ?_
  refine L_v rfl rfl rfl (V_load1 0 rfl rfl rfl Try.underlying9 rfl (by first | rfl | exact dg_get (by omega) (by omega))) ?_
  refine L_callRef (m1 := [(b0, row 45 (recV x v1 v2 v3 v4))]) (m := RM b (then2 (then2 (then2 (then2 (then2 (then2 (then2 (then2 (r) (encTs ([Tok.c (x.1)]))) (encTs ([Tok.c (x.2.1)]))) (encTs ([Tok.c (x.2.2.1)]))) (encTs (enC.tk x.2.2.2.1))) (encTs ([Tok.c (x.2.2.2.2.1)]))) (encTs ([Tok.c (x.2.2.2.2.2.1.1)]))) (encTs ([Tok.c (x.2.2.2.2.2.1.2.1)]))) (encTs (clC.tk x.2.2.2.2.2.1.2.2.1))) z8) (Ms := RM b (then2 (then2 (then2 (then2 (then2 (then2 (then2 (then2 (then2 (r) (encTs ([Tok.c (x.1)]))) (encTs ([Tok.c (x.2.1)]))) (encTs ([Tok.c (x.2.2.1)]))) (encTs (enC.tk x.2.2.2.1))) (encTs ([Tok.c (x.2.2.2.2.1)]))) (encTs ([Tok.c (x.2.2.2.2.2.1.1)]))) (encTs ([Tok.c (x.2.2.2.2.2.1.2.1)]))) (encTs (clC.tk x.2.2.2.2.2.1.2.2.1))) (encTs ([Tok.s (x.2.2.2.2.2.1.2.2.2)])))) (C := RC (then2 (then2 (then2 (then2 (then2 (then2 (then2 (then2 (then2 (r) (encTs ([Tok.c (x.1)]))) (encTs ([Tok.c (x.2.1)]))) (encTs ([Tok.c (x.2.2.1)]))) (encTs (enC.tk x.2.2.2.1))) (encTs ([Tok.c (x.2.2.2.2.1)]))) (encTs ([Tok.c (x.2.2.2.2.2.1.1)]))) (encTs ([Tok.c (x.2.2.2.2.2.1.2.1)]))) (encTs (clC.tk x.2.2.2.2.2.1.2.2.1))) (encTs ([Tok.s (x.2.2.2.2.2.1.2.2.2)])))) (val := .tuple #[]) rfl rfl rfl rfl rfl rfl tx69g rfl (fun w1 hw => rs_w b (then2 (then2 (then2 (then2 (then2 (then2 (then2 (then2 (r) (encTs ([Tok.c (x.1)]))) (encTs ([Tok.c (x.2.1)]))) (encTs ([Tok.c (x.2.2.1)]))) (encTs (enC.tk x.2.2.2.1))) (encTs ([Tok.c (x.2.2.2.2.1)]))) (encTs ([Tok.c (x.2.2.2.2.2.1.1)]))) (encTs ([Tok.c (x.2.2.2.2.2.1.2.1)]))) (encTs (clC.tk x.2.2.2.2.2.1.2.2.1))) z8 (x.2.2.2.2.2.1.2.2.2) w1 hw.memM hC8 (RZ.le hz8 (by decide))) (fun z9 hC9 => ?_)
  have hz9 : RZ (then2 (then2 (then2 (then2 (then2 (then2 (then2 (then2 (then2 (r) (encTs ([Tok.c (x.1)]))) (encTs ([Tok.c (x.2.1)]))) (encTs ([Tok.c (x.2.2.1)]))) (encTs (enC.tk x.2.2.2.1))) (encTs ([Tok.c (x.2.2.2.2.1)]))) (encTs ([Tok.c (x.2.2.2.2.2.1.1)]))) (encTs ([Tok.c (x.2.2.2.2.2.1.2.1)]))) (encTs (clC.tk x.2.2.2.2.2.1.2.2.1))) (encTs ([Tok.s (x.2.2.2.2.2.1.2.2.2)]))) (65545 * 4) := RZ.stepB (m := 1) (RZ.le hz8 (by decide)) (fun M h => encTs_len h)
  refine L_nil ?_
  change J _ _ _ _
  refine J_region ?_
  refine L_v rfl rfl rfl (V_move rfl rfl) ?_
  refine L_v rfl rfl rfl (V_fieldAddr rfl rfl Try.underlying45 rfl sz43g rfl) ?_
  refine L_v rfl rfl rfl (V_loadT 0 (vs := sgV x.2.2.2.2.2.2) rfl rfl rfl Try.underlying43 rfl sz43g rfl rfl) ?_
  refine L_callRef (m1 := [(b0, row 45 (recV x v1 v2 v3 v4))]) (m := RM b (then2 (then2 (then2 (then2 (then2 (then2 (then2 (then2 (then2 (r) (encTs ([Tok.c (x.1)]))) (encTs ([Tok.c (x.2.1)]))) (encTs ([Tok.c (x.2.2.1)]))) (encTs (enC.tk x.2.2.2.1))) (encTs ([Tok.c (x.2.2.2.2.1)]))) (encTs ([Tok.c (x.2.2.2.2.2.1.1)]))) (encTs ([Tok.c (x.2.2.2.2.2.1.2.1)]))) (encTs (clC.tk x.2.2.2.2.2.1.2.2.1))) (encTs ([Tok.s (x.2.2.2.2.2.1.2.2.2)]))) z9) (Ms := RM b (then2 (then2 (then2 (then2 (then2 (then2 (then2 (then2 (then2 (then2 (r) (encTs ([Tok.c (x.1)]))) (encTs ([Tok.c (x.2.1)]))) (encTs ([Tok.c (x.2.2.1)]))) (encTs (enC.tk x.2.2.2.1))) (encTs ([Tok.c (x.2.2.2.2.1)]))) (encTs ([Tok.c (x.2.2.2.2.2.1.1)]))) (encTs ([Tok.c (x.2.2.2.2.2.1.2.1)]))) (encTs (clC.tk x.2.2.2.2.2.1.2.2.1))) (encTs ([Tok.s (x.2.2.2.2.2.1.2.2.2)]))) (encTs (sgC.tk x.2.2.2.2.2.2)))) (C := RC (then2 (then2 (then2 (then2 (then2 (then2 (then2 (then2 (then2 (then2 (r) (encTs ([Tok.c (x.1)]))) (encTs ([Tok.c (x.2.1)]))) (encTs ([Tok.c (x.2.2.1)]))) (encTs (enC.tk x.2.2.2.1))) (encTs ([Tok.c (x.2.2.2.2.1)]))) (encTs ([Tok.c (x.2.2.2.2.2.1.1)]))) (encTs ([Tok.c (x.2.2.2.2.2.1.2.1)]))) (encTs (clC.tk x.2.2.2.2.2.1.2.2.1))) (encTs ([Tok.s (x.2.2.2.2.2.1.2.2.2)]))) (encTs (sgC.tk x.2.2.2.2.2.2)))) (val := .tuple #[]) rfl rfl rfl rfl rfl rfl tx70g rfl (fun w1 hw => rsig_w b (then2 (then2 (then2 (then2 (then2 (then2 (then2 (then2 (then2 (r) (encTs ([Tok.c (x.1)]))) (encTs ([Tok.c (x.2.1)]))) (encTs ([Tok.c (x.2.2.1)]))) (encTs (enC.tk x.2.2.2.1))) (encTs ([Tok.c (x.2.2.2.2.1)]))) (encTs ([Tok.c (x.2.2.2.2.2.1.1)]))) (encTs ([Tok.c (x.2.2.2.2.2.1.2.1)]))) (encTs (clC.tk x.2.2.2.2.2.1.2.2.1))) (encTs ([Tok.s (x.2.2.2.2.2.1.2.2.2)]))) z9 x.2.2.2.2.2.2 w1 hw.memM hC9 (RZ.le hz9 (by decide))) (fun z10 hC10 => ?_)
  refine L_nil ?_
  change Kret _ _ _ Exit.normal _
  refine Kret_normal ?_
  refine ret0 rfl rfl  ?_
  have e9 : then2 (then2 (then2 (then2 (then2 (then2 (then2 (then2 (then2 (then2 (r) (encTs ([Tok.c (x.1)]))) (encTs ([Tok.c (x.2.1)]))) (encTs ([Tok.c (x.2.2.1)]))) (encTs (enC.tk x.2.2.2.1))) (encTs ([Tok.c (x.2.2.2.2.1)]))) (encTs ([Tok.c (x.2.2.2.2.2.1.1)]))) (encTs ([Tok.c (x.2.2.2.2.2.1.2.1)]))) (encTs (clC.tk x.2.2.2.2.2.1.2.2.1))) (encTs ([Tok.s (x.2.2.2.2.2.1.2.2.2)]))) (encTs (sgC.tk x.2.2.2.2.2.2)) = then2 r (encTs (recC.tk x)) := by
    rw [rec_toks2]
    simp only [encTs_app, then2_assoc]
  exact fun w' h => by rw [← e9]; exact RefP.of z10 h rfl hC10 (List.sublist_append_right _ _)

end Go.Proofs.Ytcdenfkbhefbbaa
