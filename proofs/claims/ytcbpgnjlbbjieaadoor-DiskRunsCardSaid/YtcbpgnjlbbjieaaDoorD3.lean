/- The disk's calls, further. -/
import Derived.Test.YtcbpgnjlbbjieaaDoorD2
set_option linter.unusedVariables false
set_option linter.unusedSimpArgs false
set_option maxRecDepth 100000
namespace Go.Proofs.YtcbpgnjlbbjieaaDoor
open Go.Sx
theorem namesD_no {D : Dk} (h : D.down = true) : namesD D = D := by unfold namesD; rw [h, if_pos rfl]
theorem namesD_0 {D : Dk} (h : D.down = false) : namesD D = Dk.step { D with sf := D.all, ch := [] } := by unfold namesD; rw [h, if_neg (by decide)]
theorem namesE_1 {D : Dk} (h : D.down = true) : namesE D = 90 := by unfold namesE; rw [h, if_pos rfl]
theorem namesE_0 {D : Dk} (h : D.down = false) : namesE D = 0 := by unfold namesE; rw [h, if_neg (by decide)]
theorem stopE_1 {D : Dk} {n : Int} (h : D.down = true) : stopE D n = 90 := by unfold stopE; rw [h, if_pos rfl]
theorem stopE_2 {D : Dk} {n : Int} (h : D.down = false) (k : n < 0 ∨ 1000000 < n) : stopE D n = 1 := by unfold stopE; rw [h, if_neg (by decide), if_pos k]
theorem stopE_0 {D : Dk} {n : Int} (h : D.down = false) (k : ¬ (n < 0 ∨ 1000000 < n)) : stopE D n = 0 := by unfold stopE; rw [h, if_neg (by decide), if_neg k]
theorem stopD_no {D : Dk} {n e : Int} (h : stopE D n = e) (he : e ≠ 0) : stopD D n = D := if_neg (by rw [h]; exact he)
/-- So many bytes have these names' bodies. -/
def sumL (D : Dk) (l : List Nm) : Nat := (l.map fun p => (D.bo.getD p.2 bo0).1.length).sum
theorem sumL_perm {D : Dk} {l m : List Nm} (h : l.Perm m) : sumL D l = sumL D m := (h.map _).sum_nat
theorem sumL_mid (D : Dk) (a b : List Nm) (p : Nm) : sumL D (a ++ p :: b) = sumL D (a ++ b) + (D.bo.getD p.2 bo0).1.length := by
  unfold sumL
  rw [List.map_append, List.map_cons, List.sum_append, List.sum_cons, List.map_append, List.sum_append]
  omega
theorem sumL_le {D : Dk} {N : Nat} (h : ∀ i, (D.bo.getD i bo0).1.length ≤ N) : ∀ l : List Nm, sumL D l ≤ l.length * N
  | [] => Nat.zero_le _
  | p :: l => by
    have h1 := sumL_le h l
    have h2 := h p.2
    have e : sumL D (p :: l) = (D.bo.getD p.2 bo0).1.length + sumL D l := rfl
    rw [e, List.length_cons, Nat.succ_mul]
    omega
theorem used_bd {D : Dk} {k : Nat} (h : WfD D k) (hk : k ≤ 549755813888) : D.used ≤ 2305843009213693952 := by
  have h1 : D.used ≤ D.all.length * 4194304 := sumL_le (fun i => (h.bod i).2.1) D.all
  have h2 : D.all.length * 4194304 ≤ 549755813888 * 4194304 := Nat.mul_le_mul_right _ (Nat.le_trans h.alen hk)
  exact Nat.le_trans h1 (Nat.le_trans h2 (by decide))
/-- New bytes of the caller's own. -/
def CloP (l : List Int) (w : World) : Ending → World → Prop := fun e w' => ∃ q : OwnP, e = .returned (pV q l.length) ∧ PC 1 q l.length (dg l) ∧ Upd [] w w' (pM 5 q (dg l)) []
theorem CloP.nil {w w' : World} (h : Fr [] w w') : CloP [] w (.returned (.slice none 0 0)) w' := ⟨none, rfl, ⟨rfl, rfl⟩, Upd.none ⟨fun b o hb => (by cases hb), List.nodup_nil⟩ h⟩
/-- What Read answers. -/
def ReadP (D : Dk) (f : ByteArray) (w : World) : Ending → World → Prop := fun e w' => ∃ q : OwnP, e = .returned (.tuple #[pV q (readB D f).length, .int .i64 (readE D f)]) ∧ PC 1 q (readB D f).length (dg (readB D f)) ∧ Upd [] w w' (pM 5 q (dg (readB D f))) []
theorem readE_1 {D : Dk} {f : ByteArray} (h : D.find f = none) : readE D f = 91 := if_pos h
theorem readE_0 {D : Dk} {f : ByteArray} {i : Nat} (h : D.find f = some i) : readE D f = 0 := if_neg (by rw [h]; intro h; cases h)
theorem readB_1 {D : Dk} {f : ByteArray} (h : D.find f = none) : readB D f = [] := by unfold readB; rw [h]
theorem readB_0 {D : Dk} {f : ByteArray} {i : Nat} (h : D.find f = some i) : readB D f = (D.bo.getD i bo0).1 := by unfold readB; rw [h]
/-- Names of the caller's own. -/
abbrev nmV (l : List Nm) : List Value := l.map fun p => .string p.1
def NmP (l : List Nm) (w : World) : Ending → World → Prop := fun e w' => ∃ q : OwnP, e = .returned (pV q l.length) ∧ PC 1 q l.length (nmV l) ∧ Upd [] w w' (pM 9 q (nmV l)) []
theorem sz3dc : (Tryd.prog.info? 3).map (·.size) = some 1 := by kernel_rfl
theorem sz4dc : (Tryd.prog.info? 4).map (·.size) = some 1 := by kernel_rfl
theorem sz22dc : (Tryd.prog.info? 22).map (·.size) = some 1 := by kernel_rfl
theorem sz57dc : (Tryd.prog.info? 57).map (·.size) = some 1 := by kernel_rfl
theorem sz58dc : (Tryd.prog.info? 58).map (·.size) = some 1 := by kernel_rfl
theorem sz59dc : (Tryd.prog.info? 59).map (·.size) = some 1 := by kernel_rfl
theorem sz65dc : (Tryd.prog.info? 65).map (·.size) = some 2 := by kernel_rfl
theorem tx29dc : Txt Tryd.prog 29 := txt_of Tryd.func29 rfl (by kernel_rfl)
theorem tx32dc : Txt Tryd.prog 32 := txt_of Tryd.func32 rfl (by kernel_rfl)
theorem tx33dc : Txt Tryd.prog 33 := txt_of Tryd.func33 rfl (by kernel_rfl)
theorem tx34dc : Txt Tryd.prog 34 := txt_of Tryd.func34 rfl (by kernel_rfl)
theorem tx36dc : Txt Tryd.prog 36 := txt_of Tryd.func36 rfl (by kernel_rfl)
theorem tx37dc : Txt Tryd.prog 37 := txt_of Tryd.func37 rfl (by kernel_rfl)
theorem tx38dc : Txt Tryd.prog 38 := txt_of Tryd.func38 rfl (by kernel_rfl)
theorem z3dc : (Tryd.prog.info? 3).bind (·.zero) = some (.int .i64 0) := by kernel_rfl

theorem syncNames_w (b0 : Nat) (D : Dk) (H : DkH)  (w : World) {k : Nat} (hM : MemAt w (dkM b0 D H)) (hG : Good D H) (hW : WfD D k) (hk : k ≤ 549755813888) :
    Calls Tryd.prog 13 #[.pointer (some ⟨b0, 0, none⟩)] w fun e w' => DkP b0 D H w (namesD D) (.int .i64 (namesE D)) e w' := by
  refine calls_of (args := [.pointer (some ⟨b0, 0, none⟩)]) ((dkM b0 D H).map (·.1)) (dkM b0 D H) ([]) Tryd.func13 rfl rfl (okMem hM (by simp)) ?_
  refine J_seq ?_
  refine J_region ?_
  refine L_v rfl rfl rfl (V_assign rfl rfl) ?_
  refine L_nil ?_
  change J _ _ _ _
  refine J_seq ?_
  refine J_seq ?_
  refine J_region ?_
  refine L_v rfl rfl rfl (V_move rfl rfl) ?_
  refine L_callV rfl rfl rfl rfl rfl rfl tx29dc (fun w1 hw => ready_w b0 D H w1 (hw.at (i := 0) rfl)) ?_
  refine L_v rfl rfl rfl (V_assign rfl rfl) ?_
  refine L_nil ?_
  change J _ _ _ _
  refine J_seq ?_
  refine J_region ?_
  refine L_v rfl rfl rfl (V_move rfl rfl) ?_
  refine L_v rfl rfl rfl (V_neq rfl rfl rfl rfl) ?_
  refine L_nil ?_
  change J _ _ _ _
  refine J_cond rfl (fun h1 => ?_) (fun h1 => ?_)
  ·
    first | (have h1 := of_decide_eq_true h1) | (have h1 := of_decide_eq_false h1) | skip
    have hd := rdy_T h1
    refine J_seq ?_
    refine J_region ?_
    refine L_v rfl rfl rfl (V_move rfl rfl) ?_
    refine L_v rfl rfl rfl (V_assign rfl rfl) ?_
    refine L_nil ?_
    change J _ _ _ _
    refine J_ret ?_
    change Kret _ _ _ Exit.ret _
    refine ret1 rfl rfl (RV_t rfl) ?_
    rw [hd]
    exact fun w' h => DkP.no hG (namesE_1 hd) (namesD_no hd) (Upd.of h rfl (Pk.of_sub (List.Sublist.refl _)) (fun f hf => by cases hf) (fun f hf => by cases hf))
  ·
    first | (have h1 := of_decide_eq_true h1) | (have h1 := of_decide_eq_false h1) | skip
    have hd := rdy_F h1
    refine J_skip ?_
    change J _ _ _ _
    refine J_seq ?_
    refine J_region ?_
    refine L_v rfl rfl rfl (V_move rfl rfl) ?_
    refine L_v rfl rfl rfl (V_move rfl rfl) ?_
    refine L_v rfl rfl rfl (V_move rfl rfl) ?_
    refine L_v rfl rfl rfl (V_nilCheck rfl rfl) ?_
    refine L_v rfl rfl rfl (V_fieldAddr rfl rfl Tryd.underlying61 rfl sz57dc rfl) ?_
    refine L_v rfl rfl rfl (V_load1 0 rfl rfl rfl Tryd.underlying57 rfl (by rfl)) ?_
    refine L_call rfl rfl rfl rfl tx34dc (fun w1 hw => (Go.Proofs.Tryd.clone_w _ _ _ w1 (hw.at (i := 1) rfl)).mono ?_)
    rintro e w' ⟨rfl, rfl⟩
    refine ⟨_, _, _, rfl, hw.alloc _, rfl, ?_⟩
    generalize hmm : w1.heap.size = m
    refine L_v rfl rfl rfl (V_nilCheck rfl rfl) ?_
    refine L_v rfl rfl rfl (V_fieldAddr rfl rfl Tryd.underlying61 rfl sz57dc rfl) ?_
    refine L_store1 0 (l' := dkT D.room (pV H.qb H.bs.length) (.map (some H.mn)) (.map (some m)) (pV H.qc D.ch.length) D.down D.stops D.left) rfl rfl rfl rfl rfl rfl rfl sz57dc (Nat.le_of_ble_eq_true (by kernel_rfl)) (by kernel_rfl) ?_
    refine L_v rfl rfl rfl (V_nilCheck rfl rfl) ?_
    refine L_v rfl rfl rfl (V_fieldAddr rfl rfl Tryd.underlying61 rfl sz59dc rfl) ?_
    refine L_store1 0 (l' := dkT D.room (pV H.qb H.bs.length) (.map (some H.mn)) (.map (some m)) (.slice none 0 0) D.down D.stops D.left) rfl rfl rfl rfl rfl rfl rfl sz59dc (Nat.le_of_ble_eq_true (by kernel_rfl)) (by kernel_rfl) ?_
    refine L_nil ?_
    change J _ _ _ _
    refine J_seq ?_
    refine J_pk (dkM b0 ({ D with sf := D.all, ch := [] } : Dk) { H with ms := m, es := H.en, cs := H.cn, ls := H.ln, qc := none }) ?_ ?_
    · exact Pk.of_perm (l := _ :: _ :: ((pM 65 H.qb (boR H.bs) ++ bytM H.bs) ++ [_])) (List.Perm.cons _ (List.Perm.cons _ (List.perm_append_singleton _ _))) (List.Sublist.cons_cons _ (List.Sublist.cons_cons _ (List.Sublist.cons _ (List.Sublist.append (List.sublist_append_right _ _) (List.Sublist.refl _)))))
    refine J_region ?_
    refine L_v rfl rfl rfl (V_move rfl rfl) ?_
    refine L_call rfl rfl rfl rfl tx33dc (fun w1 hw => (step_w b0 ({ D with sf := D.all, ch := [] } : Dk) { H with ms := m, es := H.en, cs := H.cn, ls := H.ln, qc := none } w1 (hw.at (i := 0) rfl) (fun hs => hW.lf hs hd)).mono ?_)
    rintro e w' ⟨rfl, hfr, hb'⟩
    refine ⟨_, _, _, rfl, hw.set (i := 0) rfl hfr hb', rfl, ?_⟩
    refine L_v rfl rfl rfl (V_assign rfl rfl) ?_
    refine L_nil ?_
    change J _ _ _ _
    refine J_ret ?_
    change Kret _ _ _ Exit.ret _
    refine ret1 rfl rfl (RV_t rfl) ?_
    exact fun w' h => DkP.ok (namesE_0 hd) (namesD_0 hd) ⟨{ H with ms := m, es := H.en, cs := H.cn, ls := H.ln, qc := none }, rfl, (names_good hG m).same rfl rfl rfl, Upd.of h rfl (Pk.of_sub (List.Sublist.refl _)) (fun f hf => by cases hf) (fun f hf => by cases hf)⟩

theorem stop_w (b0 : Nat) (D : Dk) (H : DkH) (n : Int) (w : World) {k : Nat} (hM : MemAt w (dkM b0 D H)) (hG : Good D H) (hW : WfD D k) (hk : k ≤ 549755813888) :
    Calls Tryd.prog 27 #[.pointer (some ⟨b0, 0, none⟩), .int .i64 n] w fun e w' => DkP b0 D H w (stopD D n) (.int .i64 (stopE D n)) e w' := by
  refine calls_of (args := [.pointer (some ⟨b0, 0, none⟩), .int .i64 n]) ((dkM b0 D H).map (·.1)) (dkM b0 D H) ([]) Tryd.func27 rfl rfl (okMem hM (by simp)) ?_
  refine J_seq ?_
  refine J_region ?_
  refine L_v rfl rfl rfl (V_assign rfl rfl) ?_
  refine L_nil ?_
  change J _ _ _ _
  refine J_seq ?_
  refine J_seq ?_
  refine J_region ?_
  refine L_v rfl rfl rfl (V_move rfl rfl) ?_
  refine L_callV rfl rfl rfl rfl rfl rfl tx29dc (fun w1 hw => ready_w b0 D H w1 (hw.at (i := 0) rfl)) ?_
  refine L_v rfl rfl rfl (V_assign rfl rfl) ?_
  refine L_nil ?_
  change J _ _ _ _
  refine J_seq ?_
  refine J_region ?_
  refine L_v rfl rfl rfl (V_move rfl rfl) ?_
  refine L_v rfl rfl rfl (V_neq rfl rfl rfl rfl) ?_
  refine L_nil ?_
  change J _ _ _ _
  refine J_cond rfl (fun h1 => ?_) (fun h1 => ?_)
  ·
    first | (have h1 := of_decide_eq_true h1) | (have h1 := of_decide_eq_false h1) | skip
    have hd := rdy_T h1
    refine J_seq ?_
    refine J_region ?_
    refine L_v rfl rfl rfl (V_move rfl rfl) ?_
    refine L_v rfl rfl rfl (V_assign rfl rfl) ?_
    refine L_nil ?_
    change J _ _ _ _
    refine J_ret ?_
    change Kret _ _ _ Exit.ret _
    refine ret1 rfl rfl (RV_t rfl) ?_
    rw [hd]
    exact fun w' h => DkP.no hG (stopE_1 hd) (stopD_no (stopE_1 hd) (by decide)) (Upd.of h rfl (Pk.of_sub (List.Sublist.refl _)) (fun f hf => by cases hf) (fun f hf => by cases hf))
  ·
    first | (have h1 := of_decide_eq_true h1) | (have h1 := of_decide_eq_false h1) | skip
    have hd := rdy_F h1
    refine J_skip ?_
    change J _ _ _ _
    refine J_seq ?_
    refine J_seq ?_
    refine J_region ?_
    refine L_v rfl rfl rfl (V_move rfl rfl) ?_
    refine L_v rfl rfl rfl (V_lss rfl rfl rfl rfl) ?_
    refine L_v rfl rfl rfl (V_move rfl rfl) ?_
    apply L_or 2 13 16
    · rfl
    · rfl
    · rfl
    · rfl
    · rfl
    · rfl
    · rfl
    · kernel_rfl
    · intro hb2 _ _ hk2
      refine L_wv rfl rfl rfl rfl rfl rfl (V_move rfl rfl) ?_
      refine L_wv rfl rfl rfl rfl rfl rfl (V_gtr rfl rfl rfl rfl) ?_
      exact hk2 _ ⟨rfl, rfl, rfl, rfl, ext_cut 2 (by kernel_rfl) (by kernel_rfl)⟩
    refine L_nil ?_
    change J _ _ _ _
    refine J_cond rfl (fun h3 => ?_) (fun h3 => ?_)
    ·
      first | (have h3 := of_decide_eq_true h3) | (have h3 := of_decide_eq_false h3) | skip
      rw [Bool.or_eq_true, decide_eq_true_eq, decide_eq_true_eq] at h3
      refine J_seq ?_
      refine J_region ?_
      refine L_v rfl rfl rfl (V_assign rfl rfl) ?_
      refine L_nil ?_
      change J _ _ _ _
      refine J_ret ?_
      change Kret _ _ _ Exit.ret _
      refine ret1 rfl rfl (RV_t rfl) ?_
      exact fun w' h => DkP.no hG (stopE_2 hd h3) (stopD_no (stopE_2 hd h3) (by decide)) (Upd.of h rfl (Pk.of_sub (List.Sublist.refl _)) (fun f hf => by cases hf) (fun f hf => by cases hf))
    ·
      first | (have h3 := of_decide_eq_true h3) | (have h3 := of_decide_eq_false h3) | skip
      have h3 : ¬ (n < 0 ∨ 1000000 < n) := by rw [Bool.or_eq_false_iff, decide_eq_false_iff_not, decide_eq_false_iff_not] at h3; omega
      refine J_skip ?_
      change J _ _ _ _
      refine J_seq ?_
      refine J_region ?_
      refine L_v rfl rfl rfl (V_move rfl rfl) ?_
      refine L_v rfl rfl rfl (V_move rfl rfl) ?_
      refine L_v rfl rfl rfl (V_move rfl rfl) ?_
      refine L_v rfl rfl rfl (V_move rfl rfl) ?_
      refine L_v rfl rfl rfl (V_move rfl rfl) ?_
      refine L_v rfl rfl rfl (V_eql rfl rfl rfl rfl) ?_
      refine L_v rfl rfl rfl (V_nilCheck rfl rfl) ?_
      refine L_v rfl rfl rfl (V_fieldAddr rfl rfl Tryd.underlying61 rfl sz4dc rfl) ?_
      refine L_store1 0 (l' := dkT D.room (pV H.qb H.bs.length) (.map (some H.mn)) (.map (some H.ms)) (pV H.qc D.ch.length) D.down true D.left) rfl rfl rfl rfl rfl rfl rfl sz4dc (Nat.le_of_ble_eq_true (by kernel_rfl)) (by kernel_rfl) ?_
      refine L_v rfl rfl rfl (V_nilCheck rfl rfl) ?_
      refine L_v rfl rfl rfl (V_fieldAddr rfl rfl Tryd.underlying61 rfl sz3dc rfl) ?_
      refine L_store1 0 (l' := dkT D.room (pV H.qb H.bs.length) (.map (some H.mn)) (.map (some H.ms)) (pV H.qc D.ch.length) D.down true n) rfl rfl rfl rfl rfl rfl rfl sz3dc (Nat.le_of_ble_eq_true (by kernel_rfl)) (by kernel_rfl) ?_
      refine L_v rfl rfl rfl (V_nilCheck rfl rfl) ?_
      refine L_v rfl rfl rfl (V_fieldAddr rfl rfl Tryd.underlying61 rfl sz4dc rfl) ?_
      refine L_store1 0 (l' := dkT D.room (pV H.qb H.bs.length) (.map (some H.mn)) (.map (some H.ms)) (pV H.qc D.ch.length) (decide (n = 0)) true n) rfl rfl rfl rfl rfl rfl rfl sz4dc (Nat.le_of_ble_eq_true (by kernel_rfl)) (by kernel_rfl) ?_
      refine L_nil ?_
      change J _ _ _ _
      refine J_seq ?_
      refine J_region ?_
      refine L_v rfl rfl rfl (V_assign rfl rfl) ?_
      refine L_nil ?_
      change J _ _ _ _
      refine J_ret ?_
      change Kret _ _ _ Exit.ret _
      refine ret1 rfl rfl (RV_t rfl) ?_
      exact fun w' h => DkP.ok (stopE_0 hd h3) (if_pos (stopE_0 hd h3)) ⟨H, rfl, hG.same rfl rfl rfl, Upd.of h rfl (Pk.of_sub (List.Sublist.refl _)) (fun f hf => by cases hf) (fun f hf => by cases hf)⟩

theorem cloneB_w (a : Option Addr) (c : Nat) (l : List Int) (w : World) (hv : SlB w (.slice a l.length c) l) (hl : l.length ≤ 1099511627776) :
    Calls Tryd.prog 38 #[.slice a l.length c] w fun e w' => CloP l w e w' := by
  refine calls_of (args := [.slice a l.length c]) ([]) ([]) ([factB (.slice a l.length c) l]) Tryd.func38 rfl rfl (okF1 hv) ?_
  refine J_seq ?_
  refine J_region ?_
  refine L_v rfl rfl rfl (V_assign rfl rfl) ?_
  refine L_nil ?_
  change J _ _ _ _
  refine J_seq ?_
  refine J_seq ?_
  refine J_region ?_
  refine L_v rfl rfl rfl (V_move rfl rfl) ?_
  refine L_v rfl rfl rfl (V_eqN rfl rfl rfl Tryd.underlying22 rfl) ?_
  refine L_nil ?_
  change J _ _ _ _
  refine J_cond rfl (fun h1 => ?_) (fun h1 => ?_)
  ·
    first | (have h1 := of_decide_eq_true h1) | (have h1 := of_decide_eq_false h1) | skip
    obtain rfl : a = none := by cases a with | none => rfl | some x => cases h1
    obtain rfl : l = [] := by rcases hv with ⟨h, _⟩ | ⟨b, o, c, e, _⟩; exact h; cases e
    refine J_seq ?_
    refine J_region ?_
    refine L_v rfl rfl rfl (V_assign rfl rfl) ?_
    refine L_nil ?_
    change J _ _ _ _
    refine J_ret ?_
    change Kret _ _ _ Exit.ret _
    refine ret1 rfl rfl (RV_t rfl) ?_
    exact fun w' h => CloP.nil h.fr
  ·
    first | (have h1 := of_decide_eq_true h1) | (have h1 := of_decide_eq_false h1) | skip
    refine J_skip ?_
    change J _ _ _ _
    refine J_seq ?_
    refine J_region ?_
    refine L_buildSlice (e := 5) (vs := []) (l := []) rfl rfl rfl rfl rfl (fun w => by kernel_rfl) (fun b0 => ?_)
    refine L_v rfl rfl rfl (V_move rfl rfl) ?_
    refine L_cons rfl (S_appendP (e := 5) [] [] (some (b0, [], 0, [])) [] (n := 0) (m := l.length) (news := dg l) rfl rfl rfl rfl Tryd.underlying22 elU rfl ⟨rfl, Nat.le_refl _, Nat.le_refl _⟩ (fun w1 hw => src_bytes' Tryd.underlying22 (fB hw 0 rfl) rfl) (by omega) (by omega) (fun q' hq' => ?_))
    refine L_v rfl rfl rfl (V_assign rfl rfl) ?_
    refine L_nil ?_
    change J _ _ _ _
    refine J_ret ?_
    change Kret _ _ _ Exit.ret _
    refine ret1 rfl rfl (RV_t rfl) ?_
    have e0' : 0 + l.length = l.length := Nat.zero_add _
    rw [e0'] at hq' ⊢
    exact fun w' h => ⟨q', rfl, hq', Upd.of h rfl (Pk.of_sub (by rw [List.append_nil]; exact List.Sublist.refl _)) (fun f hf => by cases hf) (fun f hf => by cases hf)⟩

set_option maxHeartbeats 2000000 in
theorem append_w (b0 : Nat) (D : Dk) (H : DkH) (f : ByteArray) (a : Option Addr) (c : Nat) (l : List Int) (w : World) {k : Nat} (hM : MemAt w (dkM b0 D H)) (hG : Good D H) (hW : WfD D k) (hk : k ≤ 549755813888) (hF : ∀ f ∈ [factB (.slice a l.length c) l], f.p w ∧ ∀ k, f.fp k → k < w.heap.size ∧ k ∉ (dkM b0 D H).map (·.1)) :
    Calls Tryd.prog 11 #[.pointer (some ⟨b0, 0, none⟩), .string f, .slice a l.length c] w fun e w' => DkP b0 D H w (appendD D f l) (.int .i64 (appendE D f l)) e w' := by
  have hbl := bs_len hG
  have hub := used_bd hW hk
  have hr0 := hW.r0
  have hr1 := hW.r1
  refine calls_of (args := [.pointer (some ⟨b0, 0, none⟩), .string f, .slice a l.length c]) ((dkM b0 D H).map (·.1)) (dkM b0 D H) ([factB (.slice a l.length c) l]) Tryd.func11 rfl rfl (okMem hM hF) ?_
  by_cases hE : nameE D f = 0
  ·
    obtain ⟨hd, i, hi⟩ := nameE_0 hE
    refine J_seq ?_
    refine J_region ?_
    refine L_v rfl rfl rfl (V_assign rfl rfl) ?_
    refine L_nil ?_
    change J _ _ _ _
    refine J_seq ?_
    refine J_region ?_
    refine L_v rfl rfl rfl (V_move rfl rfl) ?_
    refine L_v rfl rfl rfl (V_move rfl rfl) ?_
    refine L_callV rfl rfl rfl rfl rfl rfl tx32dc (fun w1 hw => (of_w b0 D H f w1 (hw.at (i := 0) rfl) (hw.at (i := 1) rfl) hG).mono fun e w2 h => ⟨by rw [h.1, hE, ofV_3 hd hi], h.2⟩) ?_
    refine L_v rfl rfl rfl (V_move rfl rfl) ?_
    refine L_v rfl rfl rfl (V_extract rfl rfl rfl) ?_
    refine L_v rfl rfl rfl (V_extract rfl rfl rfl) ?_
    refine L_v rfl rfl rfl (V_assign rfl rfl) ?_
    refine L_v rfl rfl rfl (V_assign rfl rfl) ?_
    refine L_nil ?_
    change J _ _ _ _
    refine J_seq ?_
    refine J_seq ?_
    refine J_region ?_
    refine L_v rfl rfl rfl (V_move rfl rfl) ?_
    refine L_v rfl rfl rfl (V_neq rfl rfl rfl rfl) ?_
    refine L_nil ?_
    change J _ _ _ _
    refine J_false rfl ?_
    have hil := hW.find_lt hi
    obtain ⟨q, hq⟩ := bs_get hG hil
    have hAt : ∃ b off, pA H.qb = some ⟨b, off, none⟩ := hG.b.at (by omega)
    have hqx := hG.q _ (List.mem_of_getElem? hq)
    refine J_skip ?_
    change J _ _ _ _
    refine J_seq ?_
    refine J_region ?_
    refine L_v rfl rfl rfl (V_move rfl rfl) ?_
    refine L_v rfl rfl rfl (V_nilCheck rfl rfl) ?_
    refine L_v rfl rfl rfl (V_fieldAddr rfl rfl Tryd.underlying61 rfl sz3dc rfl) ?_
    refine L_v rfl rfl rfl (V_load1 0 rfl rfl rfl Tryd.underlying3 rfl (by rfl)) ?_
    refine L_v rfl rfl rfl (V_assign rfl rfl) ?_
    refine L_nil ?_
    change J _ _ _ _
    refine J_seq ?_
    refine J_seq ?_
    refine J_region ?_
    refine L_v rfl rfl rfl (V_move rfl rfl) ?_
    refine L_v rfl rfl rfl (V_nilCheck rfl rfl) ?_
    refine L_v rfl rfl rfl (V_fieldAddr rfl rfl Tryd.underlying61 rfl sz57dc rfl) ?_
    refine L_v rfl rfl rfl (V_load1 0 rfl rfl rfl Tryd.underlying57 rfl (by rfl)) ?_
    refine L_range 1 rfl rfl rfl rfl rfl Tryd.underlying57 rfl (fun r => ?_)
    refine L_pk ((r, .mapIter (some H.mn) H.cn #[] H.cn) :: dkM b0 D H) (Pk.front _ _) ?_
    refine L_nil ?_
    change J _ _ _ _
    refine J_block ?_
    refine J_loop (X := Array Nat × List Nm × Int) (fun x => { env := [(0, .pointer (some ⟨b0, 0, none⟩)), (2, .slice a l.length c), (7, .int .i64 (i : Int)), (9, .int .i64 x.2.2), (29, .pointer (some ⟨r, 0, none⟩))], mem := (r, .mapIter (some H.mn) H.cn x.1 H.cn) :: dkM b0 D H, facts := [factB (.slice a l.length c) l] }) (fun x => LeftE H.en x.1 x.2.1 ∧ x.2.2 = D.room - D.used + (sumL D x.2.1 : Nat) ∧ sumL D x.2.1 ≤ D.used) (fun x => x.2.1.length) (#[], H.ln, D.room) ⟨LeftE.start hG.n, (by have e : sumL D H.ln = D.used := sumL_perm hG.np; show D.room = D.room - D.used + (sumL D H.ln : Nat); rw [e]; omega), Nat.le_of_eq (sumL_perm hG.np)⟩ ⟨⟨rfl, rfl, rfl, rfl, rfl, trivial⟩, List.Sublist.refl _, fun f hf => hf, rfl⟩ ?_
    rintro ⟨seen, lft, rm⟩ ⟨hle, hrm, hsm⟩
    try simp only at hle hrm hsm ⊢
    refine J_seq ?_
    refine J_region ?_
    refine L_next1 2 0 rfl rfl rfl rfl rfl rfl rfl hG.n hle (fun bn vs seen' lft' hvs hle' hnx => ?_)
    refine L_v rfl rfl rfl (V_extract rfl rfl hvs) ?_
    refine L_nil ?_
    change J _ _ _ _
    refine J_seq ?_
    refine J_cond rfl (fun h1 => ?_) (fun h1 => ?_)
    ·
      first | (have h1 := of_decide_eq_true h1) | (have h1 := of_decide_eq_false h1) | skip
      rcases hnx with ⟨h9, _⟩ | ⟨_, A, p, B, hl9, hl8, hp, hcur⟩
      · cases h9.symm.trans h1
      have hpl := hW.alt p (hG.np.mem_iff.1 hp)
      obtain ⟨qp, hqp⟩ := bs_get hG hpl
      subst hl9 hl8
      have hmid := sumL_mid D A B p
      refine J_skip ?_
      change J _ _ _ _
      refine J_block ?_
      refine J_seq ?_
      refine J_region ?_
      refine L_v rfl rfl rfl (V_entry 2 0 rfl rfl rfl rfl hG.n hcur) ?_
      refine L_v rfl rfl rfl (V_extract rfl rfl rfl) ?_
      refine L_v rfl rfl rfl (V_assign rfl rfl) ?_
      refine L_nil ?_
      change J _ _ _ _
      refine J_region ?_
      refine L_v rfl rfl rfl (V_move rfl rfl) ?_
      refine L_v rfl rfl rfl (V_move rfl rfl) ?_
      refine L_v rfl rfl rfl (V_nilCheck rfl rfl) ?_
      refine L_v rfl rfl rfl (V_fieldAddr rfl rfl Tryd.underlying61 rfl sz58dc rfl) ?_
      refine L_v rfl rfl rfl (V_load1 1 rfl rfl rfl Tryd.underlying58 rfl (by rfl)) ?_
      refine L_v rfl rfl rfl (V_move rfl rfl) ?_
      refine L_v rfl rfl rfl (V_indexN rfl rfl rfl Tryd.underlying58 sz65dc hAt (by omega) (by omega)) ?_
      refine L_v rfl rfl rfl (V_fieldC rfl rfl (fun _ _ => hAt) Tryd.underlying65 rfl sz22dc rfl) ?_
      refine L_v rfl rfl rfl (V_loadC rfl rfl Tryd.underlying22 rfl (fun w hw => (hG.slB hw (fun p hp => List.mem_cons_of_mem _ (List.mem_cons_of_mem _ (List.mem_cons_of_mem _ (List.mem_cons_of_mem _ hp)))))) (boR_at hqp 0 (by decide))) ?_
      refine L_v rfl rfl rfl (V_len rfl rfl Tryd.underlying22 rfl) ?_
      refine L_v rfl rfl rfl (V_sub (r := rm - (D.bo.getD p.2 bo0).1.length) rfl rfl rfl (by show IntKind.i64.wrap (rm - (((D.bo.getD p.2 bo0).1.length : Nat) : Int)) = _; rw [IntKind.wrap_i64]; omega)) ?_
      refine L_v rfl rfl rfl (V_assign rfl rfl) ?_
      refine L_nil ?_
      exact ⟨(seen', A ++ B, rm - (D.bo.getD p.2 bo0).1.length), ⟨hle', (by show rm - _ = D.room - D.used + (sumL D (A ++ B) : Nat); omega), (by show sumL D (A ++ B) ≤ D.used; omega)⟩, (by show (A ++ B).length < (A ++ p :: B).length; simp), ⟨rfl, rfl, rfl, rfl, rfl, trivial⟩, List.Sublist.refl _, fun f hf => hf, rfl⟩
    ·
      first | (have h1 := of_decide_eq_true h1) | (have h1 := of_decide_eq_false h1) | skip
      rcases hnx with ⟨_, h9⟩ | ⟨h9, _⟩
      rotate_left
      · cases h9.symm.trans h1
      have hrm : rm = D.room - D.used := by rw [hrm, h9]; show _ + ((0 : Nat) : Int) = _; omega
      subst hrm
      refine J_exit ?_
      change J _ _ _ _
      refine J_seq ?_
      refine J_seq ?_
      refine J_region ?_
      refine L_v rfl rfl rfl (V_move rfl rfl) ?_
      refine L_v rfl rfl rfl (V_len rfl rfl Tryd.underlying22 rfl) ?_
      refine L_v rfl rfl rfl (V_move rfl rfl) ?_
      refine L_v rfl rfl rfl (V_gtr rfl rfl rfl rfl) ?_
      refine L_nil ?_
      change J _ _ _ _
      refine J_cond rfl (fun h2 => ?_) (fun h2 => ?_)
      ·
        first | (have h2 := of_decide_eq_true h2) | (have h2 := of_decide_eq_false h2) | skip
        refine J_seq ?_
        refine J_region ?_
        refine L_v rfl rfl rfl (V_assign rfl rfl) ?_
        refine L_nil ?_
        change J _ _ _ _
        refine J_ret ?_
        change Kret _ _ _ Exit.ret _
        refine ret1 rfl rfl (RV_t rfl) ?_
        have hx := appendE_2 (b := l) hd hi h2
        exact fun w' h => DkP.no hG hx (appendD_no hx (by decide)) (Upd.of h rfl (Pk.of_sub (List.Sublist.cons _ (List.Sublist.refl _))) (fun f hf => by cases hf) (fun f hf => by cases hf))
      ·
        first | (have h2 := of_decide_eq_true h2) | (have h2 := of_decide_eq_false h2) | skip
        have hx := appendE_3 (b := l) hd hi h2
        have huse := used_le hW.asrt.nodup hi
        refine J_skip ?_
        change J _ _ _ _
        refine J_seq ?_
        refine J_pk (dkM b0 D H) (Pk.of_sub (List.Sublist.cons _ (List.Sublist.refl _))) ?_
        refine J_regionO (.pure 0 (.pure 1 (.pure 2 (.pure 3 (.pure 4 (.pure 5 (.pure 6 (.pure 7 (.pure 8 (.pure 9 (.pure 10 (.pure 11 (.pure 13 (.one 12 (.one 14 (.pure 15 (.pure 16 (.one 17 (.nil))))))))))))))))))) ([(b0, row 61 (dkC D H))]) _ (Pk.of_sub (List.Sublist.cons_cons _ (List.nil_sublist _))) (fun f hf => hf) rfl rfl (by kernel_rfl) ?_
        refine LO_v rfl rfl rfl rfl (V_move rfl rfl) ?_
        refine LO_v rfl rfl rfl rfl (V_nilCheck rfl rfl) ?_
        refine LO_v rfl rfl rfl rfl (V_fieldAddr rfl rfl Tryd.underlying61 rfl sz58dc rfl) ?_
        refine LO_v rfl rfl rfl rfl (V_load1 0 rfl rfl rfl Tryd.underlying58 rfl (by rfl)) ?_
        refine LO_v rfl rfl rfl rfl (V_move rfl rfl) ?_
        refine LO_v rfl rfl rfl rfl (V_move rfl rfl) ?_
        refine LO_v rfl rfl rfl rfl (V_nilCheck rfl rfl) ?_
        refine LO_v rfl rfl rfl rfl (V_fieldAddr rfl rfl Tryd.underlying61 rfl sz58dc rfl) ?_
        refine LO_v rfl rfl rfl rfl (V_load1 0 rfl rfl rfl Tryd.underlying58 rfl (by rfl)) ?_
        refine LO_v rfl rfl rfl rfl (V_move rfl rfl) ?_
        refine LO_v rfl rfl rfl rfl (V_indexN rfl rfl rfl Tryd.underlying58 sz65dc hAt (by omega) (by omega)) ?_
        refine LO_v rfl rfl rfl rfl (V_fieldC rfl rfl (fun _ _ => hAt) Tryd.underlying65 rfl sz22dc rfl) ?_
        refine LO_v rfl rfl rfl rfl (V_move rfl rfl) ?_
        refine LO_s rfl rfl rfl (S_v rfl rfl (V_loadC rfl rfl Tryd.underlying22 rfl (fun w hw => (hG.slB hw (fun p hp => List.mem_cons_of_mem _ (List.mem_cons_of_mem _ (List.mem_cons_of_mem _ hp))))) (boR_at hq 0 (by decide))) ⟨(Pk.of_sub (List.Sublist.cons_cons _ (List.nil_sublist _))), (fun f hf => hf), ?_⟩)
        refine LO_s rfl rfl rfl (S_appendP (e := 5) ([(b0, row 61 (dkC D H)), (H.mn, .map H.en H.cn), (H.ms, .map H.es H.cs)] ++ (pM 68 H.qc (chR D.ch) ++ (pM 65 H.qb (boR H.bs) ++ bytM (H.bs.take i)))) (bytM (H.bs.drop (i + 1))) q (dg (D.bo.getD i bo0).1) (n := (D.bo.getD i bo0).1.length) (m := l.length) (news := dg l) rfl rfl rfl rfl Tryd.underlying22 elU (by show _ :: _ :: _ :: (_ ++ (_ ++ _)) = _; rw [bytM_split hq]; simp only [List.cons_append, List.append_assoc, List.nil_append]) hqx (fun w1 hw => src_bytes' Tryd.underlying22 (fB hw 0 rfl) rfl) (by omega) (by omega) (fun q' hq' => ⟨(Pk.of_sub (List.Sublist.cons_cons _ (List.nil_sublist _))), (fun f hf => hf), ?_⟩))
        refine LO_v rfl rfl rfl rfl (V_indexN rfl rfl rfl Tryd.underlying58 sz65dc hAt (by omega) (by omega)) ?_
        refine LO_v rfl rfl rfl rfl (V_fieldC rfl rfl (fun _ _ => hAt) Tryd.underlying65 rfl sz22dc rfl) ?_
        refine LO_s rfl rfl rfl (S_storeP (e := 65) ([(b0, row 61 (dkC D H)), (H.mn, .map H.en H.cn), (H.ms, .map H.es H.cs)] ++ pM 68 H.qc (chR D.ch)) (bytM (H.bs.take i) ++ (pM 5 q' (dg (D.bo.getD i bo0).1 ++ dg l) ++ bytM (H.bs.drop (i + 1)))) H.qb (boR H.bs) rfl rfl rfl rfl (by show ((_ :: _ :: _ :: []) ++ (_ ++ (_ ++ _))) ++ (_ ++ _) = _; simp only [List.cons_append, List.append_assoc, List.nil_append]) hG.b (by rw [boR_len]; show i * 2 < _; omega) rfl sz22dc ⟨(Pk.of_sub (List.Sublist.cons_cons _ (List.nil_sublist _))), (fun f hf => hf), ?_⟩)
        refine LO_nil ?_
        change J _ _ _ _
        refine J_seq ?_
        refine J_pk (dkM b0 (D.setB i ((D.bo.getD i bo0).1 ++ l, (D.bo.getD i bo0).2)) { H with bs := H.bs.set i (((D.bo.getD i bo0).1 ++ l, (D.bo.getD i bo0).2), q') }) (Pk.of_sub (by rw [appd_M b0 D H hq]; exact List.Sublist.refl _)) ?_
        refine J_region ?_
        refine L_v rfl rfl rfl (V_move rfl rfl) ?_
        refine L_call rfl rfl rfl rfl tx33dc (fun w1 hw => (step_w b0 (D.setB i ((D.bo.getD i bo0).1 ++ l, (D.bo.getD i bo0).2)) { H with bs := H.bs.set i (((D.bo.getD i bo0).1 ++ l, (D.bo.getD i bo0).2), q') } w1 (hw.at (i := 0) rfl) (fun hs => hW.lf hs hd)).mono ?_)
        rintro e w' ⟨rfl, hfr, hb'⟩
        refine ⟨_, _, _, rfl, hw.set (i := 0) rfl hfr hb', rfl, ?_⟩
        refine L_v rfl rfl rfl (V_assign rfl rfl) ?_
        refine L_nil ?_
        change J _ _ _ _
        refine J_ret ?_
        change Kret _ _ _ Exit.ret _
        refine ret1 rfl rfl (RV_t rfl) ?_
        exact fun w' h => DkP.ok hx (appendD_0 hx hi) ⟨{ H with bs := H.bs.set i (((D.bo.getD i bo0).1 ++ l, (D.bo.getD i bo0).2), q') }, rfl, (setB_good (x := ((D.bo.getD i bo0).1 ++ l, (D.bo.getD i bo0).2)) (q' := q') hG hil (by rw [List.length_append, show dg ((D.bo.getD i bo0).1 ++ l) = dg (D.bo.getD i bo0).1 ++ dg l from List.map_append]; exact hq')).same rfl rfl rfl, Upd.of h rfl (Pk.of_sub (List.Sublist.refl _)) (fun f hf => by cases hf) (fun f hf => by cases hf)⟩
  ·
    refine J_seq ?_
    refine J_region ?_
    refine L_v rfl rfl rfl (V_assign rfl rfl) ?_
    refine L_nil ?_
    change J _ _ _ _
    refine J_seq ?_
    refine J_region ?_
    refine L_v rfl rfl rfl (V_move rfl rfl) ?_
    refine L_v rfl rfl rfl (V_move rfl rfl) ?_
    refine L_callV rfl rfl rfl rfl rfl rfl tx32dc (fun w1 hw => (of_w b0 D H f w1 (hw.at (i := 0) rfl) (hw.at (i := 1) rfl) hG).mono fun e w2 h => ⟨by rw [h.1, ofV_0 hE], h.2⟩) ?_
    refine L_v rfl rfl rfl (V_move rfl rfl) ?_
    refine L_v rfl rfl rfl (V_extract rfl rfl rfl) ?_
    refine L_v rfl rfl rfl (V_extract rfl rfl rfl) ?_
    refine L_v rfl rfl rfl (V_assign rfl rfl) ?_
    refine L_v rfl rfl rfl (V_assign rfl rfl) ?_
    refine L_nil ?_
    change J _ _ _ _
    refine J_seq ?_
    refine J_seq ?_
    refine J_region ?_
    refine L_v rfl rfl rfl (V_move rfl rfl) ?_
    refine L_v rfl rfl rfl (V_neq rfl rfl rfl rfl) ?_
    refine L_nil ?_
    change J _ _ _ _
    refine J_cond rfl (fun h1 => ?_) (fun h1 => ?_)
    ·
      first | (have h1 := of_decide_eq_true h1) | (have h1 := of_decide_eq_false h1) | skip
      refine J_seq ?_
      refine J_region ?_
      refine L_v rfl rfl rfl (V_move rfl rfl) ?_
      refine L_v rfl rfl rfl (V_assign rfl rfl) ?_
      refine L_nil ?_
      change J _ _ _ _
      refine J_ret ?_
      change Kret _ _ _ Exit.ret _
      refine ret1 rfl rfl (RV_t rfl) ?_
      exact fun w' h => DkP.no hG (appendE_1 hE) (appendD_no (appendE_1 hE) hE) (Upd.of h rfl (Pk.of_sub (List.Sublist.refl _)) (fun f hf => by cases hf) (fun f hf => by cases hf))
    ·
      first | (have h1 := of_decide_eq_true h1) | (have h1 := of_decide_eq_false h1) | skip
      exact absurd (Classical.not_not.1 h1) hE

theorem read_w (b0 : Nat) (D : Dk) (H : DkH) (f : ByteArray) (w : World) {k : Nat} (hM : MemAt w (dkM b0 D H)) (hG : Good D H) (hW : WfD D k) :
    Calls Tryd.prog 16 #[.pointer (some ⟨b0, 0, none⟩), .string f] w fun e w' => ReadP D f w e w' := by
  refine calls_of (args := [.pointer (some ⟨b0, 0, none⟩), .string f]) ([]) ([]) ([]) Tryd.func16 rfl rfl (okW0 _ _ _ _) ?_
  refine J_seq ?_
  refine J_region ?_
  refine L_v rfl rfl rfl (V_assign rfl rfl) ?_
  refine L_v rfl rfl rfl (V_assign rfl rfl) ?_
  refine L_nil ?_
  change J _ _ _ _
  refine J_seq ?_
  refine J_seq ?_
  refine J_region ?_
  refine L_v rfl rfl rfl (V_move rfl rfl) ?_
  refine L_v rfl rfl rfl (V_eqP rfl rfl rfl Tryd.underlying24 rfl) ?_
  refine L_nil ?_
  change J _ _ _ _
  refine J_false rfl ?_
  refine J_skip ?_
  change J _ _ _ _
  refine J_seq ?_
  refine J_region ?_
  refine L_v rfl rfl rfl (V_move rfl rfl) ?_
  refine L_v rfl rfl rfl (V_nilCheck rfl rfl) ?_
  refine L_v rfl rfl rfl (V_fieldAddr rfl rfl Tryd.underlying61 rfl sz57dc rfl) ?_
  refine L_v rfl rfl rfl (V_loadF rfl rfl Tryd.underlying57 rfl (fun w hw => OkW.later hw rfl (hM.1 b0 _ (List.mem_cons_self ..))) rfl) ?_
  refine L_v rfl rfl rfl (V_move rfl rfl) ?_
  refine L_v rfl rfl rfl (V_lookupF rfl rfl rfl Tryd.underlying57 Tryd.underlying9 z3dc (fun w1 hw => OkW.later hw rfl (hM.1 H.mn _ (List.mem_cons_of_mem _ (List.mem_cons_self ..)))) hG.n (hG.find f)) ?_
  refine L_v rfl rfl rfl (V_move rfl rfl) ?_
  refine L_v rfl rfl rfl (V_extract rfl rfl rfl) ?_
  refine L_v rfl rfl rfl (V_extract rfl rfl rfl) ?_
  refine L_v rfl rfl rfl (V_assign rfl rfl) ?_
  refine L_v rfl rfl rfl (V_assign rfl rfl) ?_
  refine L_nil ?_
  change J _ _ _ _
  refine J_seq ?_
  refine J_seq ?_
  refine J_region ?_
  refine L_v rfl rfl rfl (V_move rfl rfl) ?_
  refine L_v rfl rfl rfl (V_not rfl rfl rfl) ?_
  refine L_nil ?_
  change J _ _ _ _
  refine J_cond rfl (fun h1 => ?_) (fun h1 => ?_)
  ·
    first | (have h1 := of_decide_eq_true h1) | (have h1 := of_decide_eq_false h1) | skip
    have h2 := isS_T h1
    refine J_seq ?_
    refine J_region ?_
    refine L_v rfl rfl rfl (V_assign rfl rfl) ?_
    refine L_v rfl rfl rfl (V_assign rfl rfl) ?_
    refine L_nil ?_
    change J _ _ _ _
    refine J_ret ?_
    change Kret _ _ _ Exit.ret _
    refine ret2 rfl rfl (RV_t rfl) (RV_t rfl) ?_
    exact fun w' h => ⟨none, by rw [readB_1 h2, readE_1 h2]; rfl, by rw [readB_1 h2]; exact ⟨rfl, rfl⟩, by rw [readB_1 h2]; exact Upd.none ⟨fun b o hb => (by cases hb), List.nodup_nil⟩ h.fr⟩
  ·
    first | (have h1 := of_decide_eq_true h1) | (have h1 := of_decide_eq_false h1) | skip
    obtain ⟨i, hi⟩ := isS_F h1
    have hil := hW.find_lt hi
    obtain ⟨q, hq⟩ := bs_get hG hil
    have hbl := bs_len hG
    have hAt : ∃ b off, pA H.qb = some ⟨b, off, none⟩ := hG.b.at (by omega)
    refine J_skip ?_
    change J _ _ _ _
    refine J_seq ?_
    refine J_region ?_
    refine L_v rfl rfl rfl (V_move rfl rfl) ?_
    refine L_v rfl rfl rfl (V_nilCheck rfl rfl) ?_
    refine L_v rfl rfl rfl (V_fieldAddr rfl rfl Tryd.underlying61 rfl sz58dc rfl) ?_
    refine L_v rfl rfl rfl (V_loadF rfl rfl Tryd.underlying58 rfl (fun w hw => OkW.later hw rfl (hM.1 b0 _ (List.mem_cons_self ..))) rfl) ?_
    refine L_v rfl rfl rfl (V_move rfl rfl) ?_
    refine L_same 25 rfl ((show Value.int .i64 (((D.find f).getD 0 : Nat) : Int) = .int .i64 (i : Int) from by rw [hi]; rfl)) ?_
    refine L_v rfl rfl rfl (V_indexN rfl rfl rfl Tryd.underlying58 sz65dc hAt (by omega) (by omega)) ?_
    refine L_v rfl rfl rfl (V_fieldC rfl rfl (fun _ _ => hAt) Tryd.underlying65 rfl sz22dc rfl) ?_
    refine L_v rfl rfl rfl (V_loadC rfl rfl Tryd.underlying22 rfl (fun w hw => SlC.later hw rfl (hG.slB (okA (P := Tryd.prog) hM) (fun p hp => List.mem_cons_of_mem _ (List.mem_cons_of_mem _ (List.mem_cons_of_mem _ hp))))) (boR_at hq 0 (by decide))) ?_
    refine L_call rfl rfl rfl rfl tx38dc (fun w1 hw => (cloneB_w (pA q) (pC q) (D.bo.getD i bo0).1 w1 (SlB.later hw rfl (hG.slX (okA (P := Tryd.prog) hM) (fun p hp => List.mem_cons_of_mem _ (List.mem_cons_of_mem _ (List.mem_cons_of_mem _ hp))) hq)) (by have := (hW.bod i).2.1; omega)).mono ?_)
    rintro e w' ⟨q1, rfl, hq1, hU⟩
    refine ⟨_, _, _, rfl, OkW.upd (m1 := []) hw hU, rfl, ?_⟩
    refine L_v rfl rfl rfl (V_assign rfl rfl) ?_
    refine L_v rfl rfl rfl (V_assign rfl rfl) ?_
    refine L_nil ?_
    change J _ _ _ _
    refine J_ret ?_
    change Kret _ _ _ Exit.ret _
    refine ret2 rfl rfl (RV_t rfl) (RV_t rfl) ?_
    exact fun w' h => ⟨q1, by rw [readB_0 hi, readE_0 hi], by rw [readB_0 hi]; exact hq1, by rw [readB_0 hi]; exact Upd.of h rfl (Pk.of_sub (List.Sublist.refl _)) (fun f hf => by cases hf) (fun f hf => by cases hf)⟩

theorem read_0 (f : ByteArray) (w : World) :
    Calls Tryd.prog 16 #[.pointer none, .string f] w fun e w' => e = .returned (.tuple #[.slice none 0 0, .int .i64 3]) ∧ Fr [] w w' := by
  refine calls_of (args := [.pointer none, .string f]) ([]) ([]) ([]) Tryd.func16 rfl rfl (okW0 _ _ _ _) ?_
  refine J_seq ?_
  refine J_region ?_
  refine L_v rfl rfl rfl (V_assign rfl rfl) ?_
  refine L_v rfl rfl rfl (V_assign rfl rfl) ?_
  refine L_nil ?_
  change J _ _ _ _
  refine J_seq ?_
  refine J_seq ?_
  refine J_region ?_
  refine L_v rfl rfl rfl (V_move rfl rfl) ?_
  refine L_v rfl rfl rfl (V_eqP rfl rfl rfl Tryd.underlying24 rfl) ?_
  refine L_nil ?_
  change J _ _ _ _
  refine J_true rfl ?_
  refine J_seq ?_
  refine J_region ?_
  refine L_v rfl rfl rfl (V_assign rfl rfl) ?_
  refine L_v rfl rfl rfl (V_assign rfl rfl) ?_
  refine L_nil ?_
  change J _ _ _ _
  refine J_ret ?_
  change Kret _ _ _ Exit.ret _
  refine ret2 rfl rfl (RV_t rfl) (RV_t rfl) ?_
  exact fun w' h => ⟨rfl, h.fr⟩

theorem names_w (b0 : Nat) (D : Dk) (H : DkH) (w : World) {k : Nat} (hM : MemAt w (dkM b0 D H)) (hG : Good D H) (hW : WfD D k) (hk : k ≤ 549755813888) :
    Calls Tryd.prog 18 #[.pointer (some ⟨b0, 0, none⟩)] w fun e w' => NmP D.all w e w' := by
  refine calls_of (args := [.pointer (some ⟨b0, 0, none⟩)]) ([]) ([]) ([]) Tryd.func18 rfl rfl (okW0 _ _ _ _) ?_
  refine J_seq ?_
  refine J_region ?_
  refine L_v rfl rfl rfl (V_assign rfl rfl) ?_
  refine L_nil ?_
  change J _ _ _ _
  refine J_seq ?_
  refine J_seq ?_
  refine J_region ?_
  refine L_v rfl rfl rfl (V_move rfl rfl) ?_
  refine L_v rfl rfl rfl (V_eqP rfl rfl rfl Tryd.underlying24 rfl) ?_
  refine L_nil ?_
  change J _ _ _ _
  refine J_false rfl ?_
  refine J_skip ?_
  change J _ _ _ _
  refine J_seq ?_
  refine J_region ?_
  refine L_v rfl rfl rfl (V_move rfl rfl) ?_
  refine L_v rfl rfl rfl (V_nilCheck rfl rfl) ?_
  refine L_v rfl rfl rfl (V_fieldAddr rfl rfl Tryd.underlying61 rfl sz57dc rfl) ?_
  refine L_v rfl rfl rfl (V_loadF rfl rfl Tryd.underlying57 rfl (fun w hw => OkW.later hw rfl (hM.1 b0 _ (List.mem_cons_self ..))) rfl) ?_
  refine L_call rfl rfl rfl rfl tx37dc (fun w1 hw => (Go.Proofs.Tryd.keys_w _ w1).mono ?_)
  rintro e w' ⟨rfl, rfl⟩
  refine ⟨_, _, _, rfl, hw.alloc _, rfl, ?_⟩
  generalize hmm : w1.heap.size = m
  refine L_call rfl rfl rfl rfl tx36dc (fun w1 hw => (sorted_w m H.mn H.en H.cn H.ln D.all w1 (hw.at (i := 0) rfl) (OkW.later hw rfl (hM.1 H.mn _ (List.mem_cons_of_mem _ (List.mem_cons_self ..)))) hG.n (fun p hp => ?_) (by rw [hG.alen]; have := hW.alen; omega) hG.np hW.asrt).mono ?_)
  · have hp := hG.np.mem_iff.1 hp
    have := hW.alt p hp
    have := hW.n1
    exact ⟨hW.anm p hp, by omega⟩
  rintro e w' ⟨q, rfl, hfr, hq, hn⟩
  refine ⟨_, _, _, rfl, hw.addL hfr hn, rfl, ?_⟩
  refine L_v rfl rfl rfl (V_assign rfl rfl) ?_
  refine L_nil ?_
  change J _ _ _ _
  refine J_ret ?_
  change Kret _ _ _ Exit.ret _
  refine ret1 rfl rfl (RV_t rfl) ?_
  exact fun w' h => ⟨q, rfl, hq, Upd.of h rfl (Pk.of_sub (List.Sublist.cons _ (List.Sublist.refl _))) (fun f hf => by cases hf) (fun f hf => by cases hf)⟩

theorem names_0 (w : World) :
    Calls Tryd.prog 18 #[.pointer none] w fun e w' => e = .returned (.slice none 0 0) ∧ Fr [] w w' := by
  refine calls_of (args := [.pointer none]) ([]) ([]) ([]) Tryd.func18 rfl rfl (okW0 _ _ _ _) ?_
  refine J_seq ?_
  refine J_region ?_
  refine L_v rfl rfl rfl (V_assign rfl rfl) ?_
  refine L_nil ?_
  change J _ _ _ _
  refine J_seq ?_
  refine J_seq ?_
  refine J_region ?_
  refine L_v rfl rfl rfl (V_move rfl rfl) ?_
  refine L_v rfl rfl rfl (V_eqP rfl rfl rfl Tryd.underlying24 rfl) ?_
  refine L_nil ?_
  change J _ _ _ _
  refine J_true rfl ?_
  refine J_seq ?_
  refine J_region ?_
  refine L_v rfl rfl rfl (V_assign rfl rfl) ?_
  refine L_nil ?_
  change J _ _ _ _
  refine J_ret ?_
  change Kret _ _ _ Exit.ret _
  refine ret1 rfl rfl (RV_t rfl) ?_
  exact fun w' h => ⟨rfl, h.fr⟩

end Go.Proofs.YtcbpgnjlbbjieaaDoor
