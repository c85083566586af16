/- Both disks are the same. -/
import Derived.Test.YtcbpgnjlbbjieaaDoorD15
set_option linter.unusedVariables false
set_option linter.unusedSimpArgs false
set_option maxRecDepth 100000
namespace Go.Proofs.YtcbpgnjlbbjieaaDoor
open Go.Sx
theorem pc_set1 {sz n j : Nat} {q : OwnP} {ks : List Value} {v : Value} (h : PC sz q n ks) : PC sz q n (ks.set j v) := by
  rcases q with _ | ⟨g, pre, c, r⟩
  · obtain ⟨h1, rfl⟩ := h
    exact ⟨h1, rfl⟩
  · exact ⟨by rw [List.length_set]; exact h.1, h.2⟩
theorem wf_rdl {D : Dk} {k : Nat} (h : WfD D k) (f : ByteArray) : (readB D f).length ≤ 4194304 := by
  unfold readB
  split
  · exact Nat.zero_le _
  · exact (h.bod _).2.1
theorem sz4dp : (Tryd.prog.info? 4).map (·.size) = some 1 := by kernel_rfl
theorem sz5dp : (Tryd.prog.info? 5).map (·.size) = some 1 := by kernel_rfl
theorem sz9dp : (Tryd.prog.info? 9).map (·.size) = some 1 := by kernel_rfl
theorem tx16dp : Txt Tryd.prog 16 := txt_of Tryd.func16 rfl (by kernel_rfl)
theorem tx18dp : Txt Tryd.prog 18 := txt_of Tryd.func18 rfl (by kernel_rfl)
theorem tx26dp : Txt Tryd.prog 26 := txt_of Tryd.func26 rfl (by kernel_rfl)
theorem tx28dp : Txt Tryd.prog 28 := txt_of Tryd.func28 rfl (by kernel_rfl)
theorem tx49dp : Txt Tryd.prog 49 := txt_of Tryd.func49 rfl (by kernel_rfl)
theorem tx50dp : Txt Tryd.prog 50 := txt_of Tryd.func50 rfl (by kernel_rfl)

set_option maxHeartbeats 1000000 in
theorem same_w {k : Nat} (b1 b2 : Nat) (D : Dk) (H : DkH) (HR : RkH) (w : World) (hM : MemAt w (dkM b1 D H)) (hM2 : MemAt w (rkM b2 D HR)) (hG : Good D H) (hG2 : GoodR D HR) (hW : WfD D k) (hk : k ≤ 549755813888) (hF : FA w (rkF D HR)) :
    Calls Tryd.prog 24 #[.pointer (some ⟨b1, 0, none⟩), .pointer (some ⟨b2, 0, none⟩)] w fun e w' => e = .returned (.bool true) ∧ Fr [] w w' := by
  have hal : D.all.length ≤ k := hW.alen
  refine calls_of (args := [.pointer (some ⟨b1, 0, none⟩), .pointer (some ⟨b2, 0, none⟩)]) ([]) ([]) ([rkF D HR]) Tryd.func24 rfl rfl (okFW (.cons hF .nil)) ?_
  refine J_seq ?_
  refine J_region ?_
  refine L_v rfl rfl rfl (V_assign rfl rfl) ?_
  refine L_nil ?_
  change J _ _ _ _
  refine J_seq ?_
  refine J_region ?_
  refine L_v rfl rfl rfl (V_move rfl rfl) ?_
  refine L_call rfl rfl rfl rfl tx18dp (fun w1 hw => (names_w b1 D H w1 ⟨fun b o hb => OkW.later hw rfl (hM.1 b o hb), hM.2⟩ hG hW hk).mono ?_)
  rintro e w' ⟨q, rfl, hq, hU⟩
  refine ⟨_, _, _, rfl, OkW.upd (m1 := []) hw hU, rfl, ?_⟩
  refine L_v rfl rfl rfl (V_assign rfl rfl) ?_
  refine L_nil ?_
  change J _ _ _ _
  refine J_seq ?_
  refine J_seq ?_
  refine J_regionO (.pure 0 (.pure 1 (.one 2 (.one 3 (.pure 4 (.pure 5 (.pure 6 (.pure 8 (.pure 9 (.pure 10 (.pure 11 (.one 7 (.pure 12 (.pure 13 (.nil))))))))))))))) (pM 9 q (nmV D.all)) _ (Pk.refl _) (fun f hf => hf) rfl rfl (by kernel_rfl) ?_
  refine LO_v rfl rfl rfl rfl (V_move rfl rfl) ?_
  refine LO_v rfl rfl rfl rfl (V_move rfl rfl) ?_
  refine LO_s rfl rfl rfl (S_call rfl rfl rfl tx49dp (fun w1 hw => (rnames_w b2 D HR w1 ⟨fun b o hb => OkW.later hw rfl (hM2.1 b o hb), hM2.2⟩ hG2 (hw.fa 0 rfl) hW (by have := hW.n2; omega)).mono ?_))
  rintro e w' ⟨q2, rfl, hq2, hU⟩
  refine ⟨_, _, _, rfl, hw.addG (fs0 := []) (fun x hx => by cases hx) hU.fr (Upd.fg hU hq2), rfl, (Pk.refl _), (fun f hf => List.mem_append_left _ hf), ?_⟩
  refine LO_callV rfl rfl rfl rfl rfl rfl rfl rfl tx28dp (fun w1 hw => (texts_w (pA q) (pA q2) (pC q) (pC q2) D.all D.all w1 (hq.slC (e := 9) hw (fun p hp => hp)) (hw.fa 1 rfl).1 (by omega)).mono fun e w2 h => ⟨by rw [h.1, decide_eq_true rfl], h.2⟩) (Pk.refl _) (fun f hf => List.mem_append_left _ hf) ?_
  refine LO_v rfl rfl rfl rfl (V_not rfl rfl rfl) ?_
  refine LO_v rfl rfl rfl rfl (V_move rfl rfl) ?_
  refine LO_wv rfl rfl rfl rfl rfl rfl rfl (V_move rfl rfl) ?_
  refine LO_wv rfl rfl rfl rfl rfl rfl rfl (V_move rfl rfl) ?_
  refine LO_wv rfl rfl rfl rfl rfl rfl rfl (V_nilCheck rfl rfl) ?_
  refine LO_wv rfl rfl rfl rfl rfl rfl rfl (V_fieldAddr rfl rfl Tryd.underlying82 rfl sz4dp rfl) ?_
  refine LO_wv rfl rfl rfl rfl rfl rfl rfl (V_loadF rfl rfl Tryd.underlying4 rfl (fun w hw => OkW.later hw rfl (hM2.1 b2 _ (List.mem_cons_self ..))) rfl) ?_
  refine LO_wcallV rfl rfl rfl rfl rfl rfl rfl rfl rfl rfl rfl tx26dp (fun w1 hw => down_w b1 D H w1 (OkW.later hw rfl (hM.1 b1 _ (List.mem_cons_self ..)))) (Pk.refl _) (fun f hf => List.mem_append_left _ hf) ?_
  refine LO_wv rfl rfl rfl rfl rfl rfl rfl (V_neB rfl rfl rfl Tryd.underlying4 rfl) ?_
  first | refine LO_v rfl rfl rfl rfl (V_pickT rfl rfl rfl) ?_ | refine LO_v rfl rfl rfl rfl (V_pickF rfl rfl rfl) ?_
  refine LO_nil ?_
  change J _ _ _ _
  refine J_cond rfl (fun h1 => ?_) (fun h1 => ?_)
  ·
    first | (have h1 := of_decide_eq_true h1) | (have h1 := of_decide_eq_false h1) | skip
    simp at h1
  ·
    first | (have h1 := of_decide_eq_true h1) | (have h1 := of_decide_eq_false h1) | skip
    refine J_skip ?_
    change J _ _ _ _
    refine J_seq ?_
    refine J_seq ?_
    refine J_region ?_
    refine L_v rfl rfl rfl (V_assign rfl rfl) ?_
    refine L_nil ?_
    change J _ _ _ _
    refine J_block ?_
    refine J_loop (X := Nat × List Value) (fun x => { env := [(0, .pointer (some ⟨b1, 0, none⟩)), (1, .pointer (some ⟨b2, 0, none⟩)), (5, pV q D.all.length), (6, .int .i64 (x.1 : Int))], mem := pM 9 q x.2, facts := [rkF D HR] }) (fun x => x.1 ≤ D.all.length ∧ PC 1 q D.all.length x.2 ∧ ∀ j, x.1 ≤ j → j < D.all.length → x.2[j]? = some (.string (D.all.getD j (e0, 0)).1)) (fun x => D.all.length - x.1) (0, nmV D.all) ⟨Nat.zero_le _, hq, fun j _ hj => by have h9 := nm_at (S := D.all) hj; rw [Int.toNat_natCast, Nat.zero_add, Nat.mul_one] at h9; exact h9⟩ ⟨⟨rfl, rfl, rfl, rfl, trivial⟩, List.Sublist.refl _, fun f hf => List.mem_append_left _ hf, rfl⟩ ?_
    rintro ⟨i, ks⟩ ⟨hil, hq, hks⟩
    try simp only at hil hq hks ⊢
    refine J_seq ?_
    refine J_seq ?_
    refine J_region ?_
    refine L_v rfl rfl rfl (V_move rfl rfl) ?_
    refine L_v rfl rfl rfl (V_move rfl rfl) ?_
    refine L_v rfl rfl rfl (V_len rfl rfl Tryd.underlying36 rfl) ?_
    refine L_v rfl rfl rfl (V_lss rfl rfl rfl rfl) ?_
    refine L_nil ?_
    change J _ _ _ _
    refine J_cond rfl (fun h2 => ?_) (fun h2 => ?_)
    ·
      first | (have h2 := of_decide_eq_true h2) | (have h2 := of_decide_eq_false h2) | skip
      have hi : i < D.all.length := by omega
      have hAq : ∃ b off, pA q = some ⟨b, off, none⟩ := hq.at (by omega)
      have hrl : (readB D (D.all.getD i (e0, 0)).1).length ≤ 4194304 := wf_rdl hW _
      refine J_skip ?_
      change J _ _ _ _
      refine J_seq ?_
      refine J_block ?_
      refine J_seq ?_
      refine J_region ?_
      refine L_v rfl rfl rfl (V_move rfl rfl) ?_
      refine L_v rfl rfl rfl (V_move rfl rfl) ?_
      refine L_v rfl rfl rfl (V_move rfl rfl) ?_
      refine L_v rfl rfl rfl (V_indexN rfl rfl rfl Tryd.underlying36 sz9dp hAq (by omega) (by omega)) ?_
      refine L_v rfl rfl rfl (V_loadC rfl rfl Tryd.underlying9 rfl (fun w hw => hq.slC (e := 9) hw (fun p hp => hp)) (by show ks[i * 1]? = _; rw [Nat.mul_one]; exact hks i (Nat.le_refl _) hi)) ?_
      refine L_call rfl rfl rfl rfl tx16dp (fun w1 hw => (read_w b1 D H (D.all.getD i (e0, 0)).1 w1 ⟨fun b o hb => OkW.later hw rfl (hM.1 b o hb), hM.2⟩ hG hW).mono ?_)
      rintro e w' ⟨q1, rfl, hq1, hU⟩
      refine ⟨_, _, _, rfl, hw.addL hU.fr hU.newL, rfl, ?_⟩
      refine L_v rfl rfl rfl (V_move rfl rfl) ?_
      refine L_v rfl rfl rfl (V_extract rfl rfl rfl) ?_
      refine L_v rfl rfl rfl (V_extract rfl rfl rfl) ?_
      refine L_v rfl rfl rfl (V_assign rfl rfl) ?_
      refine L_v rfl rfl rfl (V_assign rfl rfl) ?_
      refine L_nil ?_
      change J _ _ _ _
      refine J_seq ?_
      refine J_region ?_
      refine L_v rfl rfl rfl (V_move rfl rfl) ?_
      refine L_v rfl rfl rfl (V_move rfl rfl) ?_
      refine L_v rfl rfl rfl (V_move rfl rfl) ?_
      refine L_v rfl rfl rfl (V_indexN rfl rfl rfl Tryd.underlying36 sz9dp hAq (by omega) (by omega)) ?_
      refine L_v rfl rfl rfl (V_loadC rfl rfl Tryd.underlying9 rfl (fun w hw => hq.slC (e := 9) hw (fun p hp => List.mem_append_left _ hp)) (by show ks[i * 1]? = _; rw [Nat.mul_one]; exact hks i (Nat.le_refl _) hi)) ?_
      refine L_call rfl rfl rfl rfl tx50dp (fun w1 hw => (rread_w b2 D HR (D.all.getD i (e0, 0)).1 w1 ⟨fun b o hb => OkW.later hw rfl (hM2.1 b o hb), hM2.2⟩ hG2 (hw.fa 0 rfl) hW (by have := hW.n2; omega)).mono ?_)
      rintro e w' ⟨a2, c2, rfl, hfr, hg⟩
      refine ⟨_, _, _, rfl, hw.addG (fun x hx => hx) hfr hg, rfl, ?_⟩
      refine L_v rfl rfl rfl (V_move rfl rfl) ?_
      refine L_v rfl rfl rfl (V_extract rfl rfl rfl) ?_
      refine L_v rfl rfl rfl (V_extract rfl rfl rfl) ?_
      refine L_v rfl rfl rfl (V_assign rfl rfl) ?_
      refine L_v rfl rfl rfl (V_assign rfl rfl) ?_
      refine L_nil ?_
      change J _ _ _ _
      refine J_seq ?_
      refine J_seq ?_
      refine J_region ?_
      refine L_v rfl rfl rfl (V_move rfl rfl) ?_
      refine L_v rfl rfl rfl (V_move rfl rfl) ?_
      refine L_v rfl rfl rfl (V_neq rfl rfl rfl rfl) ?_
      refine L_v rfl rfl rfl (V_move rfl rfl) ?_
      refine L_split 55 rfl (fun h3 => ?_) (fun h3 => ?_)
      ·
        first | (have h3 := of_decide_eq_true h3) | (have h3 := of_decide_eq_false h3) | skip
        refine L_skip rfl rfl rfl rfl rfl rfl rfl ?_
        refine L_skip rfl rfl rfl rfl rfl rfl rfl ?_
        refine L_skip rfl rfl rfl rfl rfl rfl rfl ?_
        refine L_skip rfl rfl rfl rfl rfl rfl rfl ?_
        refine L_skip rfl rfl rfl rfl rfl rfl rfl ?_
        first | refine L_v rfl rfl rfl (V_pickT rfl rfl rfl) ?_ | refine L_v rfl rfl rfl (V_pickF rfl rfl rfl) ?_
        refine L_nil ?_
        change J _ _ _ _
        simp at h3
      ·
        first | (have h3 := of_decide_eq_true h3) | (have h3 := of_decide_eq_false h3) | skip
        refine L_wv rfl rfl rfl rfl rfl rfl (V_move rfl rfl) ?_
        refine L_wv rfl rfl rfl rfl rfl rfl (V_str rfl rfl Tryd.underlying22 Tryd.underlying5 Tryd.underlying9 (fun w hw => SlC.toB' (hq1.slC (e := 5) hw (fun p hp => List.mem_append_right _ hp)))) ?_
        refine L_wv rfl rfl rfl rfl rfl rfl (V_move rfl rfl) ?_
        refine L_wv rfl rfl rfl rfl rfl rfl (V_str rfl rfl Tryd.underlying22 Tryd.underlying5 Tryd.underlying9 (fun w hw => (hw.fa 1 rfl).1)) ?_
        refine L_wv rfl rfl rfl rfl rfl rfl (V_neS rfl rfl rfl rfl) ?_
        first | refine L_v rfl rfl rfl (V_pickT rfl rfl rfl) ?_ | refine L_v rfl rfl rfl (V_pickF rfl rfl rfl) ?_
        refine L_nil ?_
        change J _ _ _ _
        refine J_cond rfl (fun h4 => ?_) (fun h4 => ?_)
        ·
          first | (have h4 := of_decide_eq_true h4) | (have h4 := of_decide_eq_false h4) | skip
          simp at h4
        ·
          first | (have h4 := of_decide_eq_true h4) | (have h4 := of_decide_eq_false h4) | skip
          refine J_skip ?_
          change J _ _ _ _
          refine J_seq ?_
          refine J_seq ?_
          refine J_region ?_
          refine L_v rfl rfl rfl (V_assign rfl rfl) ?_
          refine L_nil ?_
          change J _ _ _ _
          refine J_block ?_
          refine J_loop (X := Nat × List Value) (fun x => { env := [(0, .pointer (some ⟨b1, 0, none⟩)), (1, .pointer (some ⟨b2, 0, none⟩)), (5, pV q D.all.length), (6, .int .i64 (i : Int)), (7, pV q1 (readB D (D.all.getD i (e0, 0)).1).length), (11, .int .i64 (x.1 : Int))], mem := pM 9 q ks ++ pM 5 q1 x.2, facts := [rkF D HR] }) (fun x => x.1 ≤ (readB D (D.all.getD i (e0, 0)).1).length ∧ PC 1 q1 (readB D (D.all.getD i (e0, 0)).1).length x.2) (fun x => (readB D (D.all.getD i (e0, 0)).1).length - x.1) (0, dg (readB D (D.all.getD i (e0, 0)).1)) ⟨Nat.zero_le _, hq1⟩ ⟨⟨rfl, rfl, rfl, rfl, rfl, rfl, trivial⟩, List.Sublist.refl _, fun f hf => List.mem_append_left _ hf, rfl⟩ ?_
          rintro ⟨j, cs⟩ ⟨hjl, hq1⟩
          try simp only at hjl hq1 ⊢
          refine J_seq ?_
          refine J_seq ?_
          refine J_region ?_
          refine L_v rfl rfl rfl (V_move rfl rfl) ?_
          refine L_v rfl rfl rfl (V_move rfl rfl) ?_
          refine L_v rfl rfl rfl (V_len rfl rfl Tryd.underlying22 rfl) ?_
          refine L_v rfl rfl rfl (V_lss rfl rfl rfl rfl) ?_
          refine L_nil ?_
          change J _ _ _ _
          refine J_cond rfl (fun h5 => ?_) (fun h5 => ?_)
          ·
            first | (have h5 := of_decide_eq_true h5) | (have h5 := of_decide_eq_false h5) | skip
            have hj : j < (readB D (D.all.getD i (e0, 0)).1).length := by omega
            refine J_skip ?_
            change J _ _ _ _
            refine J_seq ?_
            refine J_block ?_
            refine J_region ?_
            refine L_v rfl rfl rfl (V_move rfl rfl) ?_
            refine L_v rfl rfl rfl (V_move rfl rfl) ?_
            refine L_v rfl rfl rfl (V_indexN rfl rfl rfl Tryd.underlying22 sz5dp (hq1.at (by omega)) (by omega) (by omega)) ?_
            refine L_cons rfl (S_storeP (e := 5) (pM 9 q ks) [] q1 cs rfl rfl rfl rfl (by show _ ++ _ = _ ++ (_ ++ []); rw [List.append_nil]) hq1 (by rw [hq1.len]; omega) rfl sz5dp ?_)
            refine L_nil ?_
            change J _ _ _ _
            refine J_region ?_
            refine L_v rfl rfl rfl (V_move rfl rfl) ?_
            refine L_v rfl rfl rfl (V_add (r := ((j + 1 : Nat) : Int)) rfl rfl rfl (by rw [IntKind.wrap_i64]; omega)) ?_
            refine L_v rfl rfl rfl (V_assign rfl rfl) ?_
            refine L_nil ?_
            exact ⟨(j + 1, cs.set (0 + j * 1) (.int .u8 7)), ⟨by show j + 1 ≤ _; omega, pc_set1 hq1⟩, by show (readB D (D.all.getD i (e0, 0)).1).length - (j + 1) < (readB D (D.all.getD i (e0, 0)).1).length - j; omega, ⟨rfl, rfl, rfl, rfl, rfl, rfl, trivial⟩, (by show List.Sublist (_ ++ _) (_ ++ (_ ++ [])); rw [List.append_nil, Nat.zero_add]; exact List.Sublist.refl _), fun f hf => hf, rfl⟩
          ·
            first | (have h5 := of_decide_eq_true h5) | (have h5 := of_decide_eq_false h5) | skip
            refine J_exit ?_
            change J _ _ _ _
            refine J_region ?_
            refine L_v rfl rfl rfl (V_move rfl rfl) ?_
            refine L_v rfl rfl rfl (V_move rfl rfl) ?_
            refine L_v rfl rfl rfl (V_indexN rfl rfl rfl Tryd.underlying36 sz9dp hAq (by omega) (by omega)) ?_
            refine L_cons rfl (S_storeP (e := 9) [] (pM 5 q1 cs) q ks rfl rfl rfl rfl rfl hq (by rw [hq.len]; omega) rfl sz9dp ?_)
            refine L_nil ?_
            change J _ _ _ _
            refine J_region ?_
            refine L_v rfl rfl rfl (V_move rfl rfl) ?_
            refine L_v rfl rfl rfl (V_add (r := ((i + 1 : Nat) : Int)) rfl rfl rfl (by rw [IntKind.wrap_i64]; omega)) ?_
            refine L_v rfl rfl rfl (V_assign rfl rfl) ?_
            refine L_nil ?_
            exact ⟨(i + 1, ks.set (i * 1) (.string ⟨#[111, 118, 101, 114]⟩)), ⟨by show i + 1 ≤ _; omega, pc_set1 hq, fun j h8 h9 => by show (ks.set (i * 1) _)[j]? = _; have h8 : i + 1 ≤ j := h8; rw [Nat.mul_one, List.getElem?_set_ne (by omega)]; exact hks j (by omega) h9⟩, by show D.all.length - (i + 1) < D.all.length - i; omega, ⟨rfl, rfl, rfl, rfl, trivial⟩, (by show List.Sublist _ ([] ++ (_ ++ _)); exact List.sublist_append_left _ _), fun f hf => hf, rfl⟩
    ·
      first | (have h2 := of_decide_eq_true h2) | (have h2 := of_decide_eq_false h2) | skip
      refine J_exit ?_
      change J _ _ _ _
      refine J_seq ?_
      refine J_region ?_
      refine L_v rfl rfl rfl (V_assign rfl rfl) ?_
      refine L_nil ?_
      change J _ _ _ _
      refine J_ret ?_
      change Kret _ _ _ Exit.ret _
      refine ret1 rfl rfl (RV_t rfl) ?_
      exact fun w' h => ⟨rfl, h.fr⟩

end Go.Proofs.YtcbpgnjlbbjieaaDoor
