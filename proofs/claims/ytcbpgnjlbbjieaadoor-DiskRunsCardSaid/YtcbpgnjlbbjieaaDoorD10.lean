/- The document's disk: the calls that turn it. -/
import Derived.Test.YtcbpgnjlbbjieaaDoorD9
set_option linter.unusedVariables false
set_option linter.unusedSimpArgs false
set_option maxRecDepth 100000
namespace Go.Proofs.YtcbpgnjlbbjieaaDoor
open Go.Sx
theorem elRC : ElemOf Tryd.prog 94 3 40 (.agg [.string ByteArray.empty, .string ByteArray.empty, .int .i64 0].toArray) := elem_of (by kernel_rfl) rfl
theorem bsRC (c : Ch) (w : World) : (Instr.buildSlice 80 1 [(0, .agg (chV c).toArray)].toArray).run Tryd.prog w = .ok (.slice (some ⟨w.heap.size, 0, none⟩) 1 1) (w.alloc (row 94 (chV c))) := by kernel_rfl
theorem rchg_M (b : Nat) (D : Dk) (H : RkH) (c : Ch) (q' : OwnP) : rkM b { D with ch := D.ch ++ [c] } { H with qc := q' } = (b, row 82 (rkT D.room (pV H.qb H.bs.length) (.slice H.sa D.sf.length H.sc) (pV q' (D.ch.length + 1)) D.down D.stops D.left)) :: (pM 94 q' (chR D.ch ++ chV c) ++ pM 91 H.qb (rboR H.bs)) := by
  show (b, row _ (rkT _ _ _ (pV q' (D.ch ++ [c]).length) _ _ _)) :: (pM _ q' (chR (D.ch ++ [c])) ++ _) = _
  rw [List.length_append, chR_app]
  rfl
theorem rchg_good {D : Dk} {H : RkH} {c : Ch} {q' : OwnP} (hG : GoodR D H) (hq : PC 3 q' (D.ch.length + 1) (chR D.ch ++ chV c)) : GoodR { D with ch := D.ch ++ [c] } { H with qc := q' } :=
  ⟨by show PC 3 q' (D.ch ++ [c]).length (chR (D.ch ++ [c])); rw [List.length_append, chR_app]; exact hq, hG.b, hG.l, hG.k⟩
theorem RkP.no {m : Nat} {D D' : Dk} {H : RkH} {w w' : World} {E e : Int} (hG : GoodR D H) (he : E = e) (hD : D' = D) (hU : UpdG (rkM m D H) [rkF D H] w w' (rkM m D H) (rkF D H)) : RkP m D H w D' (.int .i64 E) (.returned (.int .i64 e)) w' := by
  subst he hD
  exact ⟨H, rfl, hG, hU⟩
theorem RkP.ok {m : Nat} {D D' D1 : Dk} {H H1 : RkH} {w w' : World} {E : Int} (he : E = 0) (hD : D' = D1) (hG : GoodR D1 H1) (hU : UpdG (rkM m D H) [rkF D H] w w' (rkM m D1 H1) (rkF D1 H1)) : RkP m D H w D' (.int .i64 E) (.returned (.int .i64 0)) w' := by
  subst he hD
  exact ⟨H1, rfl, hG, hU⟩
theorem bodyV_T {D : Dk} {f : ByteArray} : bodyV D f < 0 ↔ D.find f = none := by
  unfold bodyV
  cases D.find f with
  | none => exact ⟨fun _ => rfl, fun _ => by decide⟩
  | some i => exact ⟨fun h => absurd h (by show ¬ ((i : Int) < 0); omega), fun h => by cases h⟩
theorem bodyV_F {D : Dk} {f : ByteArray} (h : ¬ bodyV D f < 0) : ∃ i, D.find f = some i ∧ bodyV D f = (i : Int) := by
  cases e : D.find f with
  | none => exact absurd (bodyV_T.2 e) h
  | some i => exact ⟨i, rfl, by unfold bodyV; rw [e]⟩
theorem sz3dj : (Tryd.prog.info? 3).map (·.size) = some 1 := by kernel_rfl
theorem sz4dj : (Tryd.prog.info? 4).map (·.size) = some 1 := by kernel_rfl
theorem sz79dj : (Tryd.prog.info? 79).map (·.size) = some 1 := by kernel_rfl
theorem sz80dj : (Tryd.prog.info? 80).map (·.size) = some 1 := by kernel_rfl
theorem sz94dj : (Tryd.prog.info? 94).map (·.size) = some 3 := by kernel_rfl
theorem tx56dj : Txt Tryd.prog 56 := txt_of Tryd.func56 rfl (by kernel_rfl)
theorem tx57dj : Txt Tryd.prog 57 := txt_of Tryd.func57 rfl (by kernel_rfl)
theorem tx58dj : Txt Tryd.prog 58 := txt_of Tryd.func58 rfl (by kernel_rfl)
theorem tx59dj : Txt Tryd.prog 59 := txt_of Tryd.func59 rfl (by kernel_rfl)
theorem tx60dj : Txt Tryd.prog 60 := txt_of Tryd.func60 rfl (by kernel_rfl)

set_option maxHeartbeats 1000000 in
theorem rchange_w (b1 : Nat) (D : Dk) (H : RkH) (c : Ch) (w : World) {k : Nat} (hM : MemAt w (rkM b1 D H)) (hG : GoodR D H) (hW : WfD D k) (hF : ∀ f ∈ [rkF D H], f.p w ∧ ∀ k, f.fp k → k < w.heap.size ∧ k ∉ (rkM b1 D H).map (·.1)) (hd : D.down = false) (hk : k ≤ 1099511627776) :
    Calls Tryd.prog 59 #[.pointer (some ⟨b1, 0, none⟩), .agg (chV c).toArray] w fun e w' => RkP b1 D H w (D.chg c) (.int .i64 0) e w' := by
  have hn2 := hW.n2
  refine calls_of (args := [.pointer (some ⟨b1, 0, none⟩), .agg (chV c).toArray]) ((rkM b1 D H).map (·.1)) (rkM b1 D H) ([rkF D H]) Tryd.func59 rfl rfl (okMem hM hF) ?_
  refine J_seq ?_
  refine J_region ?_
  refine L_box rfl rfl rfl rfl rfl (fun b0 => ?_)
  refine L_pk ((b0, row 94 (chV c)) :: rkM b1 D H) (Pk.front _ _) ?_
  refine L_v rfl rfl rfl (V_assign rfl rfl) ?_
  refine L_nil ?_
  change J _ _ _ _
  refine J_seq ?_
  refine J_regionO (.pure 0 (.pure 1 (.pure 2 (.pure 3 (.pure 5 (.two 4 (.one 6 (.one 7 (.pure 8 (.pure 9 (.one 10 (.nil)))))) 6 (.one 4 (.one 7 (.pure 8 (.pure 9 (.one 10 (.nil)))))))))))) ([(b0, row 94 (chV c))]) _ (Pk.of_sub (List.Sublist.cons_cons _ (List.nil_sublist _))) (fun f hf => hf) rfl rfl (by kernel_rfl) ?_
  refine LO_v rfl rfl rfl rfl (V_move rfl rfl) ?_
  refine LO_v rfl rfl rfl rfl (V_move rfl rfl) ?_
  refine LO_v rfl rfl rfl rfl (V_nilCheck rfl rfl) ?_
  refine LO_v rfl rfl rfl rfl (V_fieldAddr rfl rfl Tryd.underlying82 rfl sz80dj rfl) ?_
  refine LO_v rfl rfl rfl rfl (V_loadT 0 (vs := chV c) rfl rfl rfl Tryd.underlying94 rfl sz94dj (by kernel_rfl) (by kernel_rfl)) ?_
  refine LO_both ?_ ?_
  ·
    refine LO_s rfl rfl rfl (S_v rfl rfl (V_load1 1 rfl rfl rfl Tryd.underlying80 rfl (by rfl)) ⟨(Pk.of_sub (List.Sublist.cons_cons _ (List.nil_sublist _))), (fun f hf => hf), ?_⟩)
    refine LO_s rfl rfl rfl (S_buildSlice (vs := [(0, .agg (chV c).toArray)]) (l := chV c) rfl rfl rfl rfl (bsRC _) (fun b2 => ⟨(Pk.of_sub (List.Sublist.cons_cons _ (List.nil_sublist _))), (fun f hf => hf), ?_⟩))
    refine LO_s rfl rfl rfl (S_appendP [(b0, row 94 (chV c)), (b1, row 82 (rkC D H))] (pM 91 H.qb (rboR H.bs) ++ [(b2, row 94 (chV c))]) H.qc (chR D.ch) (n := D.ch.length) (m := 1) (news := chV c) rfl rfl rfl rfl Tryd.underlying80 elRC (by show (_ :: _ :: (_ ++ _)) ++ [_] = _; simp only [List.cons_append, List.append_assoc, List.nil_append]) hG.c (fun w1 hw => src_C Tryd.underlying80 (SlC.in (r := []) (fz := (0, 0)) hw (List.mem_append_right _ (List.mem_singleton.2 rfl)) rfl 1) (all_one (by kernel_rfl))) (by omega) (by omega) (fun q' hq' => ⟨(Pk.of_sub (List.Sublist.cons_cons _ (List.nil_sublist _))), (fun f hf => hf), ?_⟩))
    refine LO_v rfl rfl rfl rfl (V_nilCheck rfl rfl) ?_
    refine LO_v rfl rfl rfl rfl (V_fieldAddr rfl rfl Tryd.underlying82 rfl sz80dj rfl) ?_
    refine LO_s rfl rfl rfl (S_store1 1 (l' := rkT D.room (pV H.qb H.bs.length) (.slice H.sa D.sf.length H.sc) (pV q' (D.ch.length + 1)) D.down D.stops D.left) rfl rfl rfl rfl rfl rfl sz80dj (Nat.le_of_ble_eq_true (by kernel_rfl)) (by kernel_rfl) ⟨(Pk.of_sub (List.Sublist.cons_cons _ (List.nil_sublist _))), (fun f hf => hf), ?_⟩)
    refine LO_nil ?_
    change J _ _ _ _
    refine J_seq ?_
    refine J_pk (rkM b1 { D with ch := D.ch ++ [c] } { H with qc := q' }) (Pk.of_sub (by rw [rchg_M]; exact List.Sublist.cons _ (List.Sublist.cons_cons _ (show List.Sublist (pM 94 q' _ ++ pM 91 _ _) (pM 94 q' _ ++ (pM 91 _ _ ++ _)) from List.Sublist.append (List.Sublist.refl _) (List.sublist_append_left _ _))))) ?_
    refine J_region ?_
    refine L_v rfl rfl rfl (V_move rfl rfl) ?_
    refine L_call rfl rfl rfl rfl tx60dj (fun w1 hw => (rstep_w b1 { D with ch := D.ch ++ [c] } { H with qc := q' } w1 (hw.at (i := 0) rfl) (fun hs => hW.lf hs hd)).mono ?_)
    rintro e w' ⟨rfl, hfr, hb'⟩
    refine ⟨_, _, _, rfl, hw.set (i := 0) rfl hfr hb', rfl, ?_⟩
    refine L_v rfl rfl rfl (V_assign rfl rfl) ?_
    refine L_nil ?_
    change J _ _ _ _
    refine J_ret ?_
    change Kret _ _ _ Exit.ret _
    refine ret1 rfl rfl (RV_t rfl) ?_
    exact fun w' h => ⟨{ H with qc := q' }, rfl, (rchg_good hG hq').same rfl rfl, UpdG.of h rfl (Pk.of_sub (List.Sublist.refl _)) (List.mem_singleton.2 rfl) (.self (List.mem_singleton.2 rfl))⟩
  ·
    refine LO_s rfl rfl rfl (S_buildSlice (vs := [(0, .agg (chV c).toArray)]) (l := chV c) rfl rfl rfl rfl (bsRC _) (fun b2 => ⟨(Pk.of_sub (List.Sublist.cons_cons _ (List.nil_sublist _))), (fun f hf => hf), ?_⟩))
    refine LO_s rfl rfl rfl (S_v rfl rfl (V_load1 1 rfl rfl rfl Tryd.underlying80 rfl (by rfl)) ⟨(Pk.of_sub (List.Sublist.cons_cons _ (List.nil_sublist _))), (fun f hf => hf), ?_⟩)
    refine LO_s rfl rfl rfl (S_appendP [(b0, row 94 (chV c)), (b1, row 82 (rkC D H))] (pM 91 H.qb (rboR H.bs) ++ [(b2, row 94 (chV c))]) H.qc (chR D.ch) (n := D.ch.length) (m := 1) (news := chV c) rfl rfl rfl rfl Tryd.underlying80 elRC (by show (_ :: _ :: (_ ++ _)) ++ [_] = _; simp only [List.cons_append, List.append_assoc, List.nil_append]) hG.c (fun w1 hw => src_C Tryd.underlying80 (SlC.in (r := []) (fz := (0, 0)) hw (List.mem_append_right _ (List.mem_singleton.2 rfl)) rfl 1) (all_one (by kernel_rfl))) (by omega) (by omega) (fun q' hq' => ⟨(Pk.of_sub (List.Sublist.cons_cons _ (List.nil_sublist _))), (fun f hf => hf), ?_⟩))
    refine LO_v rfl rfl rfl rfl (V_nilCheck rfl rfl) ?_
    refine LO_v rfl rfl rfl rfl (V_fieldAddr rfl rfl Tryd.underlying82 rfl sz80dj rfl) ?_
    refine LO_s rfl rfl rfl (S_store1 1 (l' := rkT D.room (pV H.qb H.bs.length) (.slice H.sa D.sf.length H.sc) (pV q' (D.ch.length + 1)) D.down D.stops D.left) rfl rfl rfl rfl rfl rfl sz80dj (Nat.le_of_ble_eq_true (by kernel_rfl)) (by kernel_rfl) ⟨(Pk.of_sub (List.Sublist.cons_cons _ (List.nil_sublist _))), (fun f hf => hf), ?_⟩)
    refine LO_nil ?_
    change J _ _ _ _
    refine J_seq ?_
    refine J_pk (rkM b1 { D with ch := D.ch ++ [c] } { H with qc := q' }) (Pk.of_sub (by rw [rchg_M]; exact List.Sublist.cons _ (List.Sublist.cons_cons _ (show List.Sublist (pM 94 q' _ ++ pM 91 _ _) (pM 94 q' _ ++ (pM 91 _ _ ++ _)) from List.Sublist.append (List.Sublist.refl _) (List.sublist_append_left _ _))))) ?_
    refine J_region ?_
    refine L_v rfl rfl rfl (V_move rfl rfl) ?_
    refine L_call rfl rfl rfl rfl tx60dj (fun w1 hw => (rstep_w b1 { D with ch := D.ch ++ [c] } { H with qc := q' } w1 (hw.at (i := 0) rfl) (fun hs => hW.lf hs hd)).mono ?_)
    rintro e w' ⟨rfl, hfr, hb'⟩
    refine ⟨_, _, _, rfl, hw.set (i := 0) rfl hfr hb', rfl, ?_⟩
    refine L_v rfl rfl rfl (V_assign rfl rfl) ?_
    refine L_nil ?_
    change J _ _ _ _
    refine J_ret ?_
    change Kret _ _ _ Exit.ret _
    refine ret1 rfl rfl (RV_t rfl) ?_
    exact fun w' h => ⟨{ H with qc := q' }, rfl, (rchg_good hG hq').same rfl rfl, UpdG.of h rfl (Pk.of_sub (List.Sublist.refl _)) (List.mem_singleton.2 rfl) (.self (List.mem_singleton.2 rfl))⟩

theorem rstop_w (b0 : Nat) (D : Dk) (H : RkH) (n : Int) (w : World) {k : Nat} (hM : MemAt w (rkM b0 D H)) (hG : GoodR D H) (hW : WfD D k) (hF : ∀ f ∈ [rkF D H], f.p w ∧ ∀ k, f.fp k → k < w.heap.size ∧ k ∉ (rkM b0 D H).map (·.1)) (hk : k ≤ 549755813888) :
    Calls Tryd.prog 47 #[.pointer (some ⟨b0, 0, none⟩), .int .i64 n] w fun e w' => RkP b0 D H w (stopD D n) (.int .i64 (stopE D n)) e w' := by
  refine calls_of (args := [.pointer (some ⟨b0, 0, none⟩), .int .i64 n]) ((rkM b0 D H).map (·.1)) (rkM b0 D H) ([rkF D H]) Tryd.func47 rfl rfl (okMem hM hF) ?_
  refine J_seq ?_
  refine J_region ?_
  refine L_v rfl rfl rfl (V_assign rfl rfl) ?_
  refine L_nil ?_
  change J _ _ _ _
  refine J_seq ?_
  refine J_seq ?_
  refine J_region ?_
  refine L_v rfl rfl rfl (V_move rfl rfl) ?_
  refine L_v rfl rfl rfl (V_nilCheck rfl rfl) ?_
  refine L_v rfl rfl rfl (V_fieldAddr rfl rfl Tryd.underlying82 rfl sz4dj rfl) ?_
  refine L_v rfl rfl rfl (V_load1 0 rfl rfl rfl Tryd.underlying4 rfl (by rfl)) ?_
  refine L_nil ?_
  change J _ _ _ _
  refine J_cond rfl (fun h1 => ?_) (fun h1 => ?_)
  ·
    first | (have h1 := of_decide_eq_true h1) | (have h1 := of_decide_eq_false h1) | skip
    have hd : D.down = true := h1
    refine J_seq ?_
    refine J_region ?_
    refine L_v rfl rfl rfl (V_assign rfl rfl) ?_
    refine L_nil ?_
    change J _ _ _ _
    refine J_ret ?_
    change Kret _ _ _ Exit.ret _
    refine ret1 rfl rfl (RV_t rfl) ?_
    exact fun w' h => RkP.no hG (stopE_1 hd) (stopD_no (stopE_1 hd) (by decide)) (UpdG.of h rfl (Pk.of_sub (List.Sublist.refl _)) (List.mem_singleton.2 rfl) (.self (List.mem_singleton.2 rfl)))
  ·
    first | (have h1 := of_decide_eq_true h1) | (have h1 := of_decide_eq_false h1) | skip
    have hd : D.down = false := h1
    refine J_skip ?_
    change J _ _ _ _
    refine J_seq ?_
    refine J_seq ?_
    refine J_region ?_
    refine L_v rfl rfl rfl (V_move rfl rfl) ?_
    refine L_v rfl rfl rfl (V_lss rfl rfl rfl rfl) ?_
    refine L_v rfl rfl rfl (V_move rfl rfl) ?_
    apply L_or 2 11 14
    · rfl
    · rfl
    · rfl
    · rfl
    · rfl
    · rfl
    · rfl
    · kernel_rfl
    · intro hb2 _ _ hk2
      refine L_wv rfl rfl rfl rfl rfl rfl (V_move rfl rfl) ?_
      refine L_wv rfl rfl rfl rfl rfl rfl (V_gtr rfl rfl rfl rfl) ?_
      exact hk2 _ ⟨rfl, rfl, rfl, rfl, ext_cut 2 (by kernel_rfl) (by kernel_rfl)⟩
    refine L_nil ?_
    change J _ _ _ _
    refine J_cond rfl (fun h3 => ?_) (fun h3 => ?_)
    ·
      first | (have h3 := of_decide_eq_true h3) | (have h3 := of_decide_eq_false h3) | skip
      rw [Bool.or_eq_true, decide_eq_true_eq, decide_eq_true_eq] at h3
      refine J_seq ?_
      refine J_region ?_
      refine L_v rfl rfl rfl (V_assign rfl rfl) ?_
      refine L_nil ?_
      change J _ _ _ _
      refine J_ret ?_
      change Kret _ _ _ Exit.ret _
      refine ret1 rfl rfl (RV_t rfl) ?_
      exact fun w' h => RkP.no hG (stopE_2 hd h3) (stopD_no (stopE_2 hd h3) (by decide)) (UpdG.of h rfl (Pk.of_sub (List.Sublist.refl _)) (List.mem_singleton.2 rfl) (.self (List.mem_singleton.2 rfl)))
    ·
      first | (have h3 := of_decide_eq_true h3) | (have h3 := of_decide_eq_false h3) | skip
      have h3 : ¬ (n < 0 ∨ 1000000 < n) := by rw [Bool.or_eq_false_iff, decide_eq_false_iff_not, decide_eq_false_iff_not] at h3; omega
      refine J_skip ?_
      change J _ _ _ _
      refine J_seq ?_
      refine J_region ?_
      refine L_v rfl rfl rfl (V_move rfl rfl) ?_
      refine L_v rfl rfl rfl (V_nilCheck rfl rfl) ?_
      refine L_v rfl rfl rfl (V_fieldAddr rfl rfl Tryd.underlying82 rfl sz4dj rfl) ?_
      refine L_store1 0 (l' := rkT D.room (pV H.qb H.bs.length) (.slice H.sa D.sf.length H.sc) (pV H.qc D.ch.length) D.down true D.left) rfl rfl rfl rfl rfl rfl rfl sz4dj (Nat.le_of_ble_eq_true (by kernel_rfl)) (by kernel_rfl) ?_
      refine L_nil ?_
      change J _ _ _ _
      refine J_seq ?_
      refine J_region ?_
      refine L_v rfl rfl rfl (V_move rfl rfl) ?_
      refine L_v rfl rfl rfl (V_move rfl rfl) ?_
      refine L_v rfl rfl rfl (V_nilCheck rfl rfl) ?_
      refine L_v rfl rfl rfl (V_fieldAddr rfl rfl Tryd.underlying82 rfl sz3dj rfl) ?_
      refine L_store1 0 (l' := rkT D.room (pV H.qb H.bs.length) (.slice H.sa D.sf.length H.sc) (pV H.qc D.ch.length) D.down true n) rfl rfl rfl rfl rfl rfl rfl sz3dj (Nat.le_of_ble_eq_true (by kernel_rfl)) (by kernel_rfl) ?_
      refine L_nil ?_
      change J _ _ _ _
      refine J_seq ?_
      refine J_region ?_
      refine L_v rfl rfl rfl (V_move rfl rfl) ?_
      refine L_v rfl rfl rfl (V_move rfl rfl) ?_
      refine L_v rfl rfl rfl (V_eql rfl rfl rfl rfl) ?_
      refine L_v rfl rfl rfl (V_nilCheck rfl rfl) ?_
      refine L_v rfl rfl rfl (V_fieldAddr rfl rfl Tryd.underlying82 rfl sz4dj rfl) ?_
      refine L_store1 0 (l' := rkT D.room (pV H.qb H.bs.length) (.slice H.sa D.sf.length H.sc) (pV H.qc D.ch.length) (decide (n = 0)) true n) rfl rfl rfl rfl rfl rfl rfl sz4dj (Nat.le_of_ble_eq_true (by kernel_rfl)) (by kernel_rfl) ?_
      refine L_nil ?_
      change J _ _ _ _
      refine J_seq ?_
      refine J_region ?_
      refine L_v rfl rfl rfl (V_assign rfl rfl) ?_
      refine L_nil ?_
      change J _ _ _ _
      refine J_ret ?_
      change Kret _ _ _ Exit.ret _
      refine ret1 rfl rfl (RV_t rfl) ?_
      exact fun w' h => RkP.ok (stopE_0 hd h3) (if_pos (stopE_0 hd h3)) (hG.same rfl rfl) (UpdG.of h rfl (Pk.of_sub (List.Sublist.refl _)) (List.mem_singleton.2 rfl) (.self (List.mem_singleton.2 rfl)))

theorem rsyncNames_w (b0 : Nat) (D : Dk) (H : RkH)  (w : World) {k : Nat} (hM : MemAt w (rkM b0 D H)) (hG : GoodR D H) (hW : WfD D k) (hF : ∀ f ∈ [rkF D H], f.p w ∧ ∀ k, f.fp k → k < w.heap.size ∧ k ∉ (rkM b0 D H).map (·.1)) (hk : k ≤ 549755813888) :
    Calls Tryd.prog 46 #[.pointer (some ⟨b0, 0, none⟩)] w fun e w' => RkP b0 D H w (namesD D) (.int .i64 (namesE D)) e w' := by
  refine calls_of (args := [.pointer (some ⟨b0, 0, none⟩)]) ((rkM b0 D H).map (·.1)) (rkM b0 D H) ([rkF D H]) Tryd.func46 rfl rfl (okMem hM hF) ?_
  refine J_seq ?_
  refine J_region ?_
  refine L_v rfl rfl rfl (V_assign rfl rfl) ?_
  refine L_nil ?_
  change J _ _ _ _
  refine J_seq ?_
  refine J_seq ?_
  refine J_region ?_
  refine L_v rfl rfl rfl (V_move rfl rfl) ?_
  refine L_v rfl rfl rfl (V_nilCheck rfl rfl) ?_
  refine L_v rfl rfl rfl (V_fieldAddr rfl rfl Tryd.underlying82 rfl sz4dj rfl) ?_
  refine L_v rfl rfl rfl (V_load1 0 rfl rfl rfl Tryd.underlying4 rfl (by rfl)) ?_
  refine L_nil ?_
  change J _ _ _ _
  refine J_cond rfl (fun h1 => ?_) (fun h1 => ?_)
  ·
    first | (have h1 := of_decide_eq_true h1) | (have h1 := of_decide_eq_false h1) | skip
    have hd : D.down = true := h1
    refine J_seq ?_
    refine J_region ?_
    refine L_v rfl rfl rfl (V_assign rfl rfl) ?_
    refine L_nil ?_
    change J _ _ _ _
    refine J_ret ?_
    change Kret _ _ _ Exit.ret _
    refine ret1 rfl rfl (RV_t rfl) ?_
    exact fun w' h => RkP.no hG (namesE_1 hd) (namesD_no hd) (UpdG.of h rfl (Pk.of_sub (List.Sublist.refl _)) (List.mem_singleton.2 rfl) (.self (List.mem_singleton.2 rfl)))
  ·
    first | (have h1 := of_decide_eq_true h1) | (have h1 := of_decide_eq_false h1) | skip
    have hd : D.down = false := h1
    refine J_skip ?_
    change J _ _ _ _
    refine J_seq ?_
    refine J_region ?_
    refine L_v rfl rfl rfl (V_move rfl rfl) ?_
    refine L_v rfl rfl rfl (V_move rfl rfl) ?_
    refine L_call rfl rfl rfl rfl tx58dj (fun w1 hw => (all_w b0 D H w1 (hw.memAt (List.Sublist.refl _)) hG (hw.fa 0 rfl) (by have := hW.n2; omega)).mono ?_)
    rintro e w' ⟨a, c, rfl, hfr, hg⟩
    have hn1 := hg.2.trans (fs := [rkF D H]) (n := w.heap.size) (fun g hg => .self hg) hw.fr.size
    refine ⟨_, _, _, rfl, hw.addG (fun g hg => hg) hfr hg, rfl, ?_⟩
    refine L_v rfl rfl rfl (V_nilCheck rfl rfl) ?_
    refine L_v rfl rfl rfl (V_fieldAddr rfl rfl Tryd.underlying82 rfl sz79dj rfl) ?_
    refine L_store1 0 (l' := rkT D.room (pV H.qb H.bs.length) (.slice a D.all.length c) (pV H.qc D.ch.length) D.down D.stops D.left) rfl rfl rfl rfl rfl rfl rfl sz79dj (Nat.le_of_ble_eq_true (by kernel_rfl)) (by kernel_rfl) ?_
    refine L_nil ?_
    change J _ _ _ _
    refine J_seq ?_
    refine J_region ?_
    refine L_v rfl rfl rfl (V_move rfl rfl) ?_
    refine L_v rfl rfl rfl (V_nilCheck rfl rfl) ?_
    refine L_v rfl rfl rfl (V_fieldAddr rfl rfl Tryd.underlying82 rfl sz80dj rfl) ?_
    refine L_store1 0 (l' := rkT D.room (pV H.qb H.bs.length) (.slice a D.all.length c) (.slice none 0 0) D.down D.stops D.left) rfl rfl rfl rfl rfl rfl rfl sz80dj (Nat.le_of_ble_eq_true (by kernel_rfl)) (by kernel_rfl) ?_
    refine L_nil ?_
    change J _ _ _ _
    refine J_seq ?_
    refine J_deriv (rkF ({ D with sf := D.all, ch := [] } : Dk) { H with sa := a, sc := c, qc := none }) (fun w hw => ⟨(hw.fa 1 rfl).1, (hw.fa 0 rfl).1.2⟩) (fun k hk => hk.elim (fun h => ⟨nmF a c D.all, List.mem_append_right _ (List.mem_singleton.2 rfl), h⟩) (fun h => ⟨rkF D H, List.mem_cons_self .., .inr h⟩)) ?_
    refine J_region ?_
    refine L_v rfl rfl rfl (V_move rfl rfl) ?_
    refine L_call rfl rfl rfl rfl tx60dj (fun w1 hw => (rstep_w b0 ({ D with sf := D.all, ch := [] } : Dk) { H with sa := a, sc := c, qc := none } w1 (hw.at (i := 0) rfl) (fun hs => hW.lf hs hd)).mono ?_)
    rintro e w' ⟨rfl, hfr, hb'⟩
    refine ⟨_, _, _, rfl, hw.set (i := 0) rfl hfr hb', rfl, ?_⟩
    refine L_v rfl rfl rfl (V_assign rfl rfl) ?_
    refine L_nil ?_
    change J _ _ _ _
    refine J_ret ?_
    change Kret _ _ _ Exit.ret _
    refine ret1 rfl rfl (RV_t rfl) ?_
    exact fun w' h => RkP.ok (namesE_0 hd) (namesD_0 hd) (H1 := { H with sa := a, sc := c, qc := none }) ⟨⟨rfl, rfl⟩, hG.b, hG.l, hG.k⟩ (UpdG.of h rfl (Pk.of_sub (List.Sublist.cons_cons _ (List.sublist_append_right _ _))) (List.mem_append_right _ (List.mem_singleton.2 rfl)) (fun k hk => hk.elim (hn1 k) (fun h => .inl ⟨_, List.mem_singleton.2 rfl, .inr h⟩)))

theorem rremove_w (b0 : Nat) (D : Dk) (H : RkH) (f : ByteArray) (w : World) {k : Nat} (hM : MemAt w (rkM b0 D H)) (hG : GoodR D H) (hW : WfD D k) (hF : ∀ f ∈ [rkF D H], f.p w ∧ ∀ k, f.fp k → k < w.heap.size ∧ k ∉ (rkM b0 D H).map (·.1)) (hk : k ≤ 549755813888) :
    Calls Tryd.prog 45 #[.pointer (some ⟨b0, 0, none⟩), .string f] w fun e w' => RkP b0 D H w (removeD D f) (.int .i64 (nameE D f)) e w' := by
  refine calls_of (args := [.pointer (some ⟨b0, 0, none⟩), .string f]) ((rkM b0 D H).map (·.1)) (rkM b0 D H) ([rkF D H]) Tryd.func45 rfl rfl (okMem hM hF) ?_
  refine J_seq ?_
  refine J_region ?_
  refine L_v rfl rfl rfl (V_assign rfl rfl) ?_
  refine L_nil ?_
  change J _ _ _ _
  refine J_seq ?_
  refine J_region ?_
  refine L_v rfl rfl rfl (V_move rfl rfl) ?_
  refine L_v rfl rfl rfl (V_move rfl rfl) ?_
  refine L_callV rfl rfl rfl rfl rfl rfl tx57dj (fun w1 hw => body_w b0 D H f w1 (hw.memAt (List.Sublist.refl _)) hG (hw.fa 0 rfl) hW (by have := hW.n2; omega)) ?_
  refine L_v rfl rfl rfl (V_assign rfl rfl) ?_
  refine L_nil ?_
  change J _ _ _ _
  refine J_seq ?_
  refine J_block ?_
  refine J_seq ?_
  refine J_region ?_
  refine L_v rfl rfl rfl (V_move rfl rfl) ?_
  refine L_v rfl rfl rfl (V_nilCheck rfl rfl) ?_
  refine L_v rfl rfl rfl (V_fieldAddr rfl rfl Tryd.underlying82 rfl sz4dj rfl) ?_
  refine L_v rfl rfl rfl (V_load1 0 rfl rfl rfl Tryd.underlying4 rfl (by rfl)) ?_
  refine L_v rfl rfl rfl (V_assign rfl rfl) ?_
  refine L_nil ?_
  change J _ _ _ _
  refine J_cond rfl (fun h1 => ?_) (fun h1 => ?_)
  ·
    first | (have h1 := of_decide_eq_true h1) | (have h1 := of_decide_eq_false h1) | skip
    have hd : D.down = true := h1
    refine J_seq ?_
    refine J_region ?_
    refine L_v rfl rfl rfl (V_assign rfl rfl) ?_
    refine L_nil ?_
    change J _ _ _ _
    refine J_ret ?_
    change Kret _ _ _ Exit.ret _
    refine ret1 rfl rfl (RV_t rfl) ?_
    exact fun w' h => RkP.no hG (nameE_1 hd) (removeD_no (by rw [nameE_1 hd]; decide)) (UpdG.of h rfl (Pk.of_sub (List.Sublist.refl _)) (List.mem_singleton.2 rfl) (.self (List.mem_singleton.2 rfl)))
  ·
    first | (have h1 := of_decide_eq_true h1) | (have h1 := of_decide_eq_false h1) | skip
    have hd : D.down = false := h1
    refine J_seq ?_
    refine J_region ?_
    refine L_v rfl rfl rfl (V_move rfl rfl) ?_
    refine L_v rfl rfl rfl (V_lss rfl rfl rfl rfl) ?_
    refine L_v rfl rfl rfl (V_assign rfl rfl) ?_
    refine L_nil ?_
    change J _ _ _ _
    refine J_cond rfl (fun h2 => ?_) (fun h2 => ?_)
    ·
      first | (have h2 := of_decide_eq_true h2) | (have h2 := of_decide_eq_false h2) | skip
      have h2 := bodyV_T.1 h2
      refine J_seq ?_
      refine J_region ?_
      refine L_v rfl rfl rfl (V_assign rfl rfl) ?_
      refine L_nil ?_
      change J _ _ _ _
      refine J_ret ?_
      change Kret _ _ _ Exit.ret _
      refine ret1 rfl rfl (RV_t rfl) ?_
      exact fun w' h => RkP.no hG (nameE_2 hd h2) (removeD_no (by rw [nameE_2 hd h2]; decide)) (UpdG.of h rfl (Pk.of_sub (List.Sublist.refl _)) (List.mem_singleton.2 rfl) (.self (List.mem_singleton.2 rfl)))
    ·
      first | (have h2 := of_decide_eq_true h2) | (have h2 := of_decide_eq_false h2) | skip
      obtain ⟨i, hi, hbv⟩ := bodyV_F h2
      refine J_skip ?_
      change J _ _ _ _
      refine J_seq ?_
      refine J_region ?_
      refine L_v rfl rfl rfl (V_move rfl rfl) ?_
      refine L_v rfl rfl rfl (V_move rfl rfl) ?_
      refine L_v rfl rfl rfl (V_buildE (v := .agg (chV (f, e0, 0)).toArray) rfl rfl (fun w => by kernel_rfl)) ?_
      refine L_call rfl rfl rfl rfl tx59dj (fun w1 hw => (rchange_w b0 D H (f, e0, 0) w1 (hw.memAt (List.Sublist.refl _)) hG hW (fun g hg => hw.facts g ((fun g hg => hg) g hg)) hd (by omega)).mono ?_)
      rintro e w' ⟨H', rfl, hG', hU⟩
      have hn9 := hU.g.2.trans (fs := [rkF D H]) (n := w.heap.size) (fun g hg => .self hg) hw.fr.size
      refine ⟨_, _, _, rfl, OkW.updG (m1 := []) hw (fun g hg => hg) hU, rfl, ?_⟩
      refine L_v rfl rfl rfl (V_assign rfl rfl) ?_
      refine L_nil ?_
      change J _ _ _ _
      refine J_ret ?_
      change Kret _ _ _ Exit.ret _
      refine ret1 rfl rfl (RV_t rfl) ?_
      exact fun w' h => RkP.ok (nameE_3 hd hi) (removeD_0 (nameE_3 hd hi)) hG' (UpdG.of h rfl (Pk.of_sub (List.Sublist.refl _)) (List.mem_append_right _ (List.mem_singleton.2 rfl)) hn9)

theorem rrename_w (b0 : Nat) (D : Dk) (H : RkH) (f t : ByteArray) (ht : t.size ≤ 9223372036854775807) (w : World) {k : Nat} (hM : MemAt w (rkM b0 D H)) (hG : GoodR D H) (hW : WfD D k) (hF : ∀ f ∈ [rkF D H], f.p w ∧ ∀ k, f.fp k → k < w.heap.size ∧ k ∉ (rkM b0 D H).map (·.1)) (hk : k ≤ 549755813888) :
    Calls Tryd.prog 44 #[.pointer (some ⟨b0, 0, none⟩), .string f, .string t] w fun e w' => RkP b0 D H w (renameD D f t) (.int .i64 (renameE D f t)) e w' := by
  refine calls_of (args := [.pointer (some ⟨b0, 0, none⟩), .string f, .string t]) ((rkM b0 D H).map (·.1)) (rkM b0 D H) ([rkF D H]) Tryd.func44 rfl rfl (okMem hM hF) ?_
  refine J_seq ?_
  refine J_region ?_
  refine L_v rfl rfl rfl (V_assign rfl rfl) ?_
  refine L_nil ?_
  change J _ _ _ _
  refine J_seq ?_
  refine J_region ?_
  refine L_v rfl rfl rfl (V_move rfl rfl) ?_
  refine L_v rfl rfl rfl (V_move rfl rfl) ?_
  refine L_callV rfl rfl rfl rfl rfl rfl tx57dj (fun w1 hw => body_w b0 D H f w1 (hw.memAt (List.Sublist.refl _)) hG (hw.fa 0 rfl) hW (by have := hW.n2; omega)) ?_
  refine L_v rfl rfl rfl (V_assign rfl rfl) ?_
  refine L_nil ?_
  change J _ _ _ _
  refine J_seq ?_
  refine J_block ?_
  refine J_seq ?_
  refine J_region ?_
  refine L_v rfl rfl rfl (V_move rfl rfl) ?_
  refine L_v rfl rfl rfl (V_nilCheck rfl rfl) ?_
  refine L_v rfl rfl rfl (V_fieldAddr rfl rfl Tryd.underlying82 rfl sz4dj rfl) ?_
  refine L_v rfl rfl rfl (V_load1 0 rfl rfl rfl Tryd.underlying4 rfl (by rfl)) ?_
  refine L_v rfl rfl rfl (V_assign rfl rfl) ?_
  refine L_nil ?_
  change J _ _ _ _
  refine J_cond rfl (fun h1 => ?_) (fun h1 => ?_)
  ·
    first | (have h1 := of_decide_eq_true h1) | (have h1 := of_decide_eq_false h1) | skip
    have hd : D.down = true := h1
    refine J_seq ?_
    refine J_region ?_
    refine L_v rfl rfl rfl (V_assign rfl rfl) ?_
    refine L_nil ?_
    change J _ _ _ _
    refine J_ret ?_
    change Kret _ _ _ Exit.ret _
    refine ret1 rfl rfl (RV_t rfl) ?_
    exact fun w' h => RkP.no hG ((renameE_1 (by rw [nameE_1 hd]; decide)).trans (nameE_1 hd)) (renameD_no ((renameE_1 (by rw [nameE_1 hd]; decide)).trans (nameE_1 hd)) (by decide)) (UpdG.of h rfl (Pk.of_sub (List.Sublist.refl _)) (List.mem_singleton.2 rfl) (.self (List.mem_singleton.2 rfl)))
  ·
    first | (have h1 := of_decide_eq_true h1) | (have h1 := of_decide_eq_false h1) | skip
    have hd : D.down = false := h1
    refine J_seq ?_
    refine J_region ?_
    refine L_v rfl rfl rfl (V_move rfl rfl) ?_
    refine L_v rfl rfl rfl (V_lss rfl rfl rfl rfl) ?_
    refine L_v rfl rfl rfl (V_move rfl rfl) ?_
    apply L_or 3 19 23
    · rfl
    · rfl
    · rfl
    · rfl
    · rfl
    · rfl
    · rfl
    · kernel_rfl
    · intro hb2 _ _ hk2
      refine L_wv rfl rfl rfl rfl rfl rfl (V_move rfl rfl) ?_
      refine L_wcallV rfl rfl rfl rfl rfl rfl rfl rfl rfl tx56dj (fun w1 hw => is_w t w1 ht) ?_
      refine L_wv rfl rfl rfl rfl rfl rfl (V_not rfl rfl rfl) ?_
      exact hk2 _ ⟨rfl, rfl, rfl, rfl, ext_cut 3 (by kernel_rfl) (by kernel_rfl)⟩
    refine L_v rfl rfl rfl (V_assign rfl rfl) ?_
    refine L_nil ?_
    change J _ _ _ _
    refine J_cond rfl (fun h3 => ?_) (fun h3 => ?_)
    ·
      first | (have h3 := of_decide_eq_true h3) | (have h3 := of_decide_eq_false h3) | skip
      rw [Bool.or_eq_true, decide_eq_true_eq] at h3
      have hx : renameE D f t = 91 := by
        cases hf : D.find f with
        | none => exact (renameE_1 (by rw [nameE_2 hd hf]; decide)).trans (nameE_2 hd hf)
        | some i =>
          rcases h3 with h3 | h3
          · have := bodyV_T.1 h3
            rw [hf] at this
            cases this
          · exact renameE_2 hd hf (by simpa using h3)
      refine J_seq ?_
      refine J_region ?_
      refine L_v rfl rfl rfl (V_assign rfl rfl) ?_
      refine L_nil ?_
      change J _ _ _ _
      refine J_ret ?_
      change Kret _ _ _ Exit.ret _
      refine ret1 rfl rfl (RV_t rfl) ?_
      exact fun w' h => RkP.no hG (hx) (renameD_no hx (by decide)) (UpdG.of h rfl (Pk.of_sub (List.Sublist.refl _)) (List.mem_singleton.2 rfl) (.self (List.mem_singleton.2 rfl)))
    ·
      first | (have h3 := of_decide_eq_true h3) | (have h3 := of_decide_eq_false h3) | skip
      rw [Bool.or_eq_false_iff, decide_eq_false_iff_not] at h3
      obtain ⟨i, hi, hbv⟩ := bodyV_F h3.1
      have h3 : nameOk t = true := by simpa using h3.2
      have hx := renameE_3 hd hi h3
      refine J_skip ?_
      change J _ _ _ _
      refine J_seq ?_
      refine J_region ?_
      refine L_v rfl rfl rfl (V_move rfl rfl) ?_
      refine L_v rfl rfl rfl (V_move rfl rfl) ?_
      refine L_v rfl rfl rfl (V_move rfl rfl) ?_
      refine L_v rfl rfl rfl (V_move rfl rfl) ?_
      refine L_same 27 rfl ((congrArg (Value.int .i64) hbv)) ?_
      refine L_v rfl rfl rfl (V_buildE (v := .agg (chV (f, t, i)).toArray) rfl rfl (fun w => by kernel_rfl)) ?_
      refine L_call rfl rfl rfl rfl tx59dj (fun w1 hw => (rchange_w b0 D H (f, t, i) w1 (hw.memAt (List.Sublist.refl _)) hG hW (fun g hg => hw.facts g ((fun g hg => hg) g hg)) hd (by omega)).mono ?_)
      rintro e w' ⟨H', rfl, hG', hU⟩
      have hn9 := hU.g.2.trans (fs := [rkF D H]) (n := w.heap.size) (fun g hg => .self hg) hw.fr.size
      refine ⟨_, _, _, rfl, OkW.updG (m1 := []) hw (fun g hg => hg) hU, rfl, ?_⟩
      refine L_v rfl rfl rfl (V_assign rfl rfl) ?_
      refine L_nil ?_
      change J _ _ _ _
      refine J_ret ?_
      change Kret _ _ _ Exit.ret _
      refine ret1 rfl rfl (RV_t rfl) ?_
      exact fun w' h => RkP.ok hx (renameD_0 hx hi) hG' (UpdG.of h rfl (Pk.of_sub (List.Sublist.refl _)) (List.mem_append_right _ (List.mem_singleton.2 rfl)) hn9)

end Go.Proofs.YtcbpgnjlbbjieaaDoor
