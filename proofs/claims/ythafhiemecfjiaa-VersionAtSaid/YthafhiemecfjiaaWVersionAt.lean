/- What the law comes to. -/
import Derived.Test.YthafhiemecfjiaaVersion4
set_option linter.unusedVariables false
set_option linter.unusedSimpArgs false
set_option maxRecDepth 100000
namespace Go.Proofs.Ythafhiemecfjiaa
open Go.Sx
theorem bneF {b c : Bool} (h : b = c) : (!(b == c)) = false := by subst h; cases b <;> rfl
theorem sz9z : (Try.prog.info? 9).map (·.size) = some 1 := by kernel_rfl
theorem sz33z : (Try.prog.info? 33).map (·.size) = some 3 := by kernel_rfl
theorem tx9z : Txt Try.prog 9 := txt_of Try.func9 rfl (by kernel_rfl)
theorem tx13z : Txt Try.prog 13 := txt_of Try.func13 rfl (by kernel_rfl)
theorem tx15z : Txt Try.prog 15 := txt_of Try.func15 rfl (by kernel_rfl)
theorem tx19z : Txt Try.prog 19 := txt_of Try.func19 rfl (by kernel_rfl)
theorem tx20z : Txt Try.prog 20 := txt_of Try.func20 rfl (by kernel_rfl)
theorem tx21z : Txt Try.prog 21 := txt_of Try.func21 rfl (by kernel_rfl)
theorem tx22z : Txt Try.prog 22 := txt_of Try.func22 rfl (by kernel_rfl)

theorem VersionAt_z (a : Option Addr) (n c : Nat) (l : List Ver) (w : World) (hl : l.length = n) (hu : SlC 3 w (.slice a n c) n (vcs l)) (hcn : n ≤ c) (ep : Int) (hz : 0 = (atV l ep).length) :
    Calls Try.prog 6 #[.slice a n c, .int .i64 ep] w fun e w' => e = .returned (.bool true) ∧ Fr [] w w' := by
  have hal := atV_len l ep
  refine calls_of (args := [.slice a n c, .int .i64 ep]) ([]) ([]) ([]) Try.func6 rfl rfl (okW0 _ _ _ _) ?_
  refine J_seq ?_
  refine J_region ?_
  refine L_v rfl rfl rfl (V_assign rfl rfl) ?_
  refine L_nil ?_
  change J _ _ _ _
  refine J_seq ?_
  refine J_seq ?_
  refine J_region ?_
  refine L_v rfl rfl rfl (V_move rfl rfl) ?_
  refine L_v rfl rfl rfl (V_len rfl rfl Try.underlying22 rfl) ?_
  refine L_v rfl rfl rfl (V_gtr rfl rfl rfl (by first | exact decide_eq_true (by omega) | exact decide_eq_true (by rw [at1e]; rfl) | exact decide_eq_false (by omega) | rfl)) ?_
  refine L_nil ?_
  change J _ _ _ _
  refine J_cond rfl (fun h1 => ?_) (fun h1 => ?_)
  ·
    first | (have h1 := h1; rw [decide_eq_true_eq] at h1) | (have h1 := h1; rw [decide_eq_false_iff_not] at h1) | skip
    refine J_seq ?_
    refine J_region ?_
    refine L_v rfl rfl rfl (V_assign rfl rfl) ?_
    refine L_nil ?_
    change J _ _ _ _
    refine J_ret ?_
    change Kret _ _ _ Exit.ret _
    refine ret1 rfl rfl (RV_t rfl) ?_
    exact fun w' h => ⟨rfl, h.fr⟩
  ·
    first | (have h1 := h1; rw [decide_eq_true_eq] at h1) | (have h1 := h1; rw [decide_eq_false_iff_not] at h1) | skip
    refine J_skip ?_
    change J _ _ _ _
    refine J_seq ?_
    refine J_region ?_
    refine L_v rfl rfl rfl (V_move rfl rfl) ?_
    refine L_callO rfl rfl rfl rfl rfl rfl tx9z (fun w hw => own_o _ _ _ l w hl (SlC.later hw rfl hu) (by omega)) (fun q0 hq0 => ?_)
    refine L_v rfl rfl rfl (V_assign rfl rfl) ?_
    refine L_nil ?_
    change J _ _ _ _
    refine J_seq ?_
    refine J_region ?_
    refine L_v rfl rfl rfl (V_move rfl rfl) ?_
    refine L_v rfl rfl rfl (V_move rfl rfl) ?_
    refine L_callO rfl rfl rfl rfl rfl rfl tx19z (fun w hw => at_w _ _ _ l w hl (SlC.later hw rfl hu) (by omega) hcn ep) (fun q1 hq1 => ?_)
    refine L_v rfl rfl rfl (V_assign rfl rfl) ?_
    refine L_nil ?_
    change J _ _ _ _
    refine J_seq ?_
    refine J_region ?_
    refine L_v rfl rfl rfl (V_move rfl rfl) ?_
    refine L_v rfl rfl rfl (V_move rfl rfl) ?_
    refine L_v rfl rfl rfl (V_move rfl rfl) ?_
    refine L_callO rfl rfl rfl rfl rfl rfl tx20z (fun w hw => rat_w (oA q0) n (oC q0) l w hl (SlC.ofM hw (fun p hp => by first | exact hp | exact List.mem_append_right _ hp | exact List.mem_append_left _ hp | exact List.mem_append_left _ (List.mem_append_right _ hp) | exact List.mem_append_left _ (List.mem_append_left _ hp) | exact List.mem_append_left _ (List.mem_append_left _ (List.mem_append_right _ hp)) | exact List.mem_append_left _ (List.mem_append_left _ (List.mem_append_left _ hp))) hq0) (by omega) ep) (fun q2 hq2 => ?_)
    refine L_callV rfl rfl rfl rfl rfl rfl tx15z (fun w hw => same_t (oA q1) (oA q2) (atV l ep).length (oC q1) (atV l ep).length (oC q2) (atV l ep) (atV l ep) w rfl (SlC.ofM hw (fun p hp => by first | exact hp | exact List.mem_append_right _ hp | exact List.mem_append_left _ hp | exact List.mem_append_left _ (List.mem_append_right _ hp) | exact List.mem_append_left _ (List.mem_append_left _ hp) | exact List.mem_append_left _ (List.mem_append_left _ (List.mem_append_right _ hp)) | exact List.mem_append_left _ (List.mem_append_left _ (List.mem_append_left _ hp))) hq1) rfl (SlC.ofM hw (fun p hp => by first | exact hp | exact List.mem_append_right _ hp | exact List.mem_append_left _ hp | exact List.mem_append_left _ (List.mem_append_right _ hp) | exact List.mem_append_left _ (List.mem_append_left _ hp) | exact List.mem_append_left _ (List.mem_append_left _ (List.mem_append_right _ hp)) | exact List.mem_append_left _ (List.mem_append_left _ (List.mem_append_left _ hp))) hq2) (by omega) (by omega) rfl) ?_
    refine L_v rfl rfl rfl (V_assign rfl rfl) ?_
    refine L_nil ?_
    change J _ _ _ _
    refine J_seq ?_
    refine J_seq ?_
    refine J_region ?_
    refine L_v rfl rfl rfl (V_assign rfl rfl) ?_
    refine L_nil ?_
    change J _ _ _ _
    refine J_block ?_
    refine J_loop (X := Unit) (fun _ => { env := [(0, .slice a n c), (5, ownV q0 n), (6, ownV q1 (atV l ep).length), (7, .bool true), (8, .int .i64 0)], mem := ownM 33 q0 (vcs l) }) (fun _ => True) (fun _ => 0) () trivial ⟨⟨rfl, rfl, rfl, rfl, rfl, trivial⟩, (by first | exact List.Sublist.refl _ | exact (List.sublist_append_left _ _).trans (List.sublist_append_left _ _) | exact List.sublist_append_left _ _), fun f hf => hf, rfl⟩ ?_
    rintro _ _
    refine J_seq ?_
    refine J_seq ?_
    refine J_region ?_
    refine L_v rfl rfl rfl (V_move rfl rfl) ?_
    refine L_v rfl rfl rfl (V_move rfl rfl) ?_
    refine L_v rfl rfl rfl (V_len rfl rfl Try.underlying22 rfl) ?_
    refine L_v rfl rfl rfl (V_lss rfl rfl rfl (by first | exact decide_eq_true (by omega) | exact decide_eq_true (by rw [at1e]; rfl) | exact decide_eq_false (by omega) | rfl)) ?_
    refine L_nil ?_
    change J _ _ _ _
    refine J_false rfl ?_
    refine J_exit ?_
    change J _ _ _ _
    refine J_seq ?_
    refine J_region ?_
    refine L_callV rfl rfl rfl rfl rfl rfl tx21z (fun w _ => put_w w) ?_
    refine L_callV rfl rfl rfl rfl rfl rfl tx22z (fun w _ => rotate_w w) ?_
    refine L_buildSlice (vs := [(0, .agg (vc pP).toArray), (1, .agg (vc pR).toArray)]) (l := vcs [pP, pR]) rfl rfl rfl rfl rfl (bs2 _ _) (fun b9 => ?_)
    refine L_callO rfl rfl rfl rfl rfl rfl tx19z (fun w hw => at_w (some ⟨b9, 0, none⟩) 2 2 [pP, pR] w rfl (SlC.in hw (T := 33) (ks := vcs [pP, pR]) (r := []) (fz := (0, 0)) (List.mem_append_right _ (List.mem_singleton.2 rfl)) rfl 2) (by omega) (Nat.le_refl 2) 1) (fun q3 hq3 => ?_)
    refine L_v rfl rfl rfl (V_assign rfl rfl) ?_
    refine L_nil ?_
    change J _ _ _ _
    refine J_seq ?_
    refine J_region ?_
    refine L_callV rfl rfl rfl rfl rfl rfl tx13z (fun w _ => histories_w w) ?_
    refine L_v rfl rfl rfl (V_move rfl rfl) ?_
    refine L_wv rfl rfl rfl rfl rfl rfl (V_move rfl rfl) ?_
    first | refine L_v rfl rfl rfl (V_pickT rfl rfl rfl) ?_ | refine L_v rfl rfl rfl (V_pickF rfl rfl rfl) ?_
    refine L_v rfl rfl rfl (V_move rfl rfl) ?_
    refine L_wv rfl rfl rfl rfl rfl rfl (V_move rfl rfl) ?_
    refine L_wv rfl rfl rfl rfl rfl rfl (V_move rfl rfl) ?_
    refine L_wcallV rfl rfl rfl rfl rfl rfl rfl rfl rfl tx15z (fun w hw => same_t _ _ _ _ _ _ l l w hl (SlC.later hw rfl hu) hl (SlC.ofM hw (fun p hp => List.mem_append_left _ (List.mem_append_left _ hp)) hq0) (by omega) (by omega) rfl) ?_
    first | refine L_v rfl rfl rfl (V_pickT rfl rfl rfl) ?_ | refine L_v rfl rfl rfl (V_pickF rfl rfl rfl) ?_
    refine L_v rfl rfl rfl (V_move rfl rfl) ?_
    refine L_wv rfl rfl rfl rfl rfl rfl (V_move rfl rfl) ?_
    refine L_wv rfl rfl rfl rfl rfl rfl (V_len rfl rfl Try.underlying22 rfl) ?_
    refine L_wv rfl rfl rfl rfl rfl rfl (V_eql rfl rfl rfl (by first | exact decide_eq_true (by omega) | exact decide_eq_true (by rw [at1e]; rfl) | exact decide_eq_false (by omega) | rfl)) ?_
    first | refine L_v rfl rfl rfl (V_pickT rfl rfl rfl) ?_ | refine L_v rfl rfl rfl (V_pickF rfl rfl rfl) ?_
    refine L_v rfl rfl rfl (V_assign rfl rfl) ?_
    refine L_nil ?_
    change J _ _ _ _
    refine J_ret ?_
    change Kret _ _ _ Exit.ret _
    refine ret1 rfl rfl (RV_t rfl) ?_
    exact fun w' h => ⟨rfl, h.fr⟩

theorem VersionAt_p (a : Option Addr) (n c : Nat) (l : List Ver) (w : World) (hl : l.length = n) (hu : SlC 3 w (.slice a n c) n (vcs l)) (hcn : n ≤ c) (ep : Int) (hz : 0 < (atV l ep).length) :
    Calls Try.prog 6 #[.slice a n c, .int .i64 ep] w fun e w' => e = .returned (.bool true) ∧ Fr [] w w' := by
  have hal := atV_len l ep
  refine calls_of (args := [.slice a n c, .int .i64 ep]) ([]) ([]) ([]) Try.func6 rfl rfl (okW0 _ _ _ _) ?_
  refine J_seq ?_
  refine J_region ?_
  refine L_v rfl rfl rfl (V_assign rfl rfl) ?_
  refine L_nil ?_
  change J _ _ _ _
  refine J_seq ?_
  refine J_seq ?_
  refine J_region ?_
  refine L_v rfl rfl rfl (V_move rfl rfl) ?_
  refine L_v rfl rfl rfl (V_len rfl rfl Try.underlying22 rfl) ?_
  refine L_v rfl rfl rfl (V_gtr rfl rfl rfl (by first | exact decide_eq_true (by omega) | exact decide_eq_true (by rw [at1e]; rfl) | exact decide_eq_false (by omega) | rfl)) ?_
  refine L_nil ?_
  change J _ _ _ _
  refine J_cond rfl (fun h1 => ?_) (fun h1 => ?_)
  ·
    first | (have h1 := h1; rw [decide_eq_true_eq] at h1) | (have h1 := h1; rw [decide_eq_false_iff_not] at h1) | skip
    refine J_seq ?_
    refine J_region ?_
    refine L_v rfl rfl rfl (V_assign rfl rfl) ?_
    refine L_nil ?_
    change J _ _ _ _
    refine J_ret ?_
    change Kret _ _ _ Exit.ret _
    refine ret1 rfl rfl (RV_t rfl) ?_
    exact fun w' h => ⟨rfl, h.fr⟩
  ·
    first | (have h1 := h1; rw [decide_eq_true_eq] at h1) | (have h1 := h1; rw [decide_eq_false_iff_not] at h1) | skip
    refine J_skip ?_
    change J _ _ _ _
    refine J_seq ?_
    refine J_region ?_
    refine L_v rfl rfl rfl (V_move rfl rfl) ?_
    refine L_callO rfl rfl rfl rfl rfl rfl tx9z (fun w hw => own_o _ _ _ l w hl (SlC.later hw rfl hu) (by omega)) (fun q0 hq0 => ?_)
    refine L_v rfl rfl rfl (V_assign rfl rfl) ?_
    refine L_nil ?_
    change J _ _ _ _
    refine J_seq ?_
    refine J_region ?_
    refine L_v rfl rfl rfl (V_move rfl rfl) ?_
    refine L_v rfl rfl rfl (V_move rfl rfl) ?_
    refine L_callO rfl rfl rfl rfl rfl rfl tx19z (fun w hw => at_w _ _ _ l w hl (SlC.later hw rfl hu) (by omega) hcn ep) (fun q1 hq1 => ?_)
    obtain ⟨g1, c1, r1, rfl, hk1, hc1, hr1⟩ := hq1.forms (by omega)
    refine L_v rfl rfl rfl (V_assign rfl rfl) ?_
    refine L_nil ?_
    change J _ _ _ _
    refine J_seq ?_
    refine J_region ?_
    refine L_v rfl rfl rfl (V_move rfl rfl) ?_
    refine L_v rfl rfl rfl (V_move rfl rfl) ?_
    refine L_v rfl rfl rfl (V_move rfl rfl) ?_
    refine L_callO rfl rfl rfl rfl rfl rfl tx20z (fun w hw => rat_w (oA q0) n (oC q0) l w hl (SlC.ofM hw (fun p hp => by first | exact hp | exact List.mem_append_right _ hp | exact List.mem_append_left _ hp | exact List.mem_append_left _ (List.mem_append_right _ hp) | exact List.mem_append_left _ (List.mem_append_left _ hp) | exact List.mem_append_left _ (List.mem_append_left _ (List.mem_append_right _ hp)) | exact List.mem_append_left _ (List.mem_append_left _ (List.mem_append_left _ hp))) hq0) (by omega) ep) (fun q2 hq2 => ?_)
    refine L_callV rfl rfl rfl rfl rfl rfl tx15z (fun w hw => same_t (some ⟨g1, 0, none⟩) (oA q2) (atV l ep).length c1 (atV l ep).length (oC q2) (atV l ep) (atV l ep) w rfl (SlC.in hw (T := 33) (ks := vcs (atV l ep)) (r := r1) (fz := (0, 0)) (List.mem_append_left _ (List.mem_append_right _ (List.mem_singleton.2 rfl))) hk1 c1) rfl (SlC.ofM hw (fun p hp => by first | exact hp | exact List.mem_append_right _ hp | exact List.mem_append_left _ hp | exact List.mem_append_left _ (List.mem_append_right _ hp) | exact List.mem_append_left _ (List.mem_append_left _ hp) | exact List.mem_append_left _ (List.mem_append_left _ (List.mem_append_right _ hp)) | exact List.mem_append_left _ (List.mem_append_left _ (List.mem_append_left _ hp))) hq2) (by omega) (by omega) rfl) ?_
    refine L_v rfl rfl rfl (V_assign rfl rfl) ?_
    refine L_nil ?_
    change J _ _ _ _
    refine J_seq ?_
    refine J_seq ?_
    refine J_region ?_
    refine L_pk ((g1, row 33 (vcs (atV l ep) ++ r1)) :: ownM 33 q0 (vcs l)) (Pk.of_perm (l := ownM 33 q0 (vcs l) ++ [(g1, row 33 (vcs (atV l ep) ++ r1))]) List.perm_append_comm (List.sublist_append_left _ _)) ?_
    refine L_v rfl rfl rfl (V_assign rfl rfl) ?_
    refine L_nil ?_
    change J _ _ _ _
    refine J_block ?_
    refine J_loop (X := Nat × List Value) (fun x => { env := [(0, .slice a n c), (5, ownV q0 n), (6, .slice (some ⟨g1, 0, none⟩) (atV l ep).length c1), (7, .bool true), (8, .int .i64 (x.1 : Int))], mem := (g1, row 33 x.2) :: ownM 33 q0 (vcs l) }) (fun x => x.1 ≤ (atV l ep).length ∧ (atV l ep).length * 3 ≤ x.2.length) (fun x => (atV l ep).length - x.1) (0, vcs (atV l ep) ++ r1) ⟨Nat.zero_le _, by rw [List.length_append, hk1]; omega⟩ ⟨⟨rfl, rfl, rfl, rfl, rfl, trivial⟩, List.Sublist.refl _, fun f hf => hf, rfl⟩ ?_
    rintro ⟨i, L⟩ ⟨hi, hL⟩
    simp only at hi hL ⊢
    refine J_seq ?_
    refine J_seq ?_
    refine J_region ?_
    refine L_v rfl rfl rfl (V_move rfl rfl) ?_
    refine L_v rfl rfl rfl (V_move rfl rfl) ?_
    refine L_v rfl rfl rfl (V_len rfl rfl Try.underlying22 rfl) ?_
    refine L_v rfl rfl rfl (V_lss rfl rfl rfl (by first | exact decide_eq_true (by omega) | exact decide_eq_true (by rw [at1e]; rfl) | exact decide_eq_false (by omega) | rfl)) ?_
    refine L_nil ?_
    change J _ _ _ _
    refine J_cond rfl (fun h2 => ?_) (fun h2 => ?_)
    ·
      first | (have h2 := h2; rw [decide_eq_true_eq] at h2) | (have h2 := h2; rw [decide_eq_false_iff_not] at h2) | skip
      refine J_skip ?_
      change J _ _ _ _
      refine J_seq ?_
      refine J_block ?_
      refine J_region ?_
      refine L_v rfl rfl rfl (V_move rfl rfl) ?_
      refine L_v rfl rfl rfl (V_move rfl rfl) ?_
      refine L_v rfl rfl rfl (V_indexSl rfl rfl rfl Try.underlying22 sz33z (by omega) (by omega) (by first | exact ix0 _ | exact ix1 _ _ | rfl)) ?_
      refine L_v rfl rfl rfl (V_fieldAddr rfl rfl Try.underlying33 rfl sz9z rfl) ?_
      refine L_store1 0 rfl rfl rfl rfl rfl rfl rfl sz9z (by first | exact Nat.zero_lt_succ _ | (show 0 + ((i : Nat) : Int).toNat * 3 + 2 < List.length _; rw [Int.toNat_natCast]; omega)) (by first | rfl | exact dg_set _ _ _) ?_
      refine L_nil ?_
      change J _ _ _ _
      refine J_region ?_
      refine L_v rfl rfl rfl (V_move rfl rfl) ?_
      refine L_v rfl rfl rfl (V_add rfl rfl rfl (by first | exact Go.IntWalk.i64_in _ (by omega) | rfl)) ?_
      refine L_v rfl rfl rfl (V_assign rfl rfl) ?_
      refine L_nil ?_
      exact ⟨(i + 1, _), ⟨by show i + 1 ≤ (atV l ep).length; omega, by show _ ≤ List.length _; rw [List.length_set]; exact hL⟩, by show (atV l ep).length - (i + 1) < (atV l ep).length - i; omega, ⟨rfl, rfl, rfl, rfl, rfl, trivial⟩, List.Sublist.refl _, fun f hf => hf, rfl⟩
    ·
      first | (have h2 := h2; rw [decide_eq_true_eq] at h2) | (have h2 := h2; rw [decide_eq_false_iff_not] at h2) | skip
      refine J_exit ?_
      change J _ _ _ _
      refine J_seq ?_
      refine J_region ?_
      refine L_callV rfl rfl rfl rfl rfl rfl tx21z (fun w _ => put_w w) ?_
      refine L_callV rfl rfl rfl rfl rfl rfl tx22z (fun w _ => rotate_w w) ?_
      refine L_buildSlice (vs := [(0, .agg (vc pP).toArray), (1, .agg (vc pR).toArray)]) (l := vcs [pP, pR]) rfl rfl rfl rfl rfl (bs2 _ _) (fun b9 => ?_)
      refine L_callO rfl rfl rfl rfl rfl rfl tx19z (fun w hw => at_w (some ⟨b9, 0, none⟩) 2 2 [pP, pR] w rfl (SlC.in hw (T := 33) (ks := vcs [pP, pR]) (r := []) (fz := (0, 0)) (List.mem_append_right _ (List.mem_singleton.2 rfl)) rfl 2) (by omega) (Nat.le_refl 2) 1) (fun q3 hq3 => ?_)
      refine L_v rfl rfl rfl (V_assign rfl rfl) ?_
      refine L_nil ?_
      change J _ _ _ _
      refine J_seq ?_
      refine J_region ?_
      refine L_callV rfl rfl rfl rfl rfl rfl tx13z (fun w _ => histories_w w) ?_
      refine L_v rfl rfl rfl (V_move rfl rfl) ?_
      refine L_wv rfl rfl rfl rfl rfl rfl (V_move rfl rfl) ?_
      first | refine L_v rfl rfl rfl (V_pickT rfl rfl rfl) ?_ | refine L_v rfl rfl rfl (V_pickF rfl rfl rfl) ?_
      refine L_v rfl rfl rfl (V_move rfl rfl) ?_
      refine L_wv rfl rfl rfl rfl rfl rfl (V_move rfl rfl) ?_
      refine L_wv rfl rfl rfl rfl rfl rfl (V_move rfl rfl) ?_
      refine L_wcallV rfl rfl rfl rfl rfl rfl rfl rfl rfl tx15z (fun w hw => same_t _ _ _ _ _ _ l l w hl (SlC.later hw rfl hu) hl (SlC.ofM hw (fun p hp => List.mem_append_left _ (List.mem_append_left _ (List.mem_cons_of_mem _ hp))) hq0) (by omega) (by omega) rfl) ?_
      first | refine L_v rfl rfl rfl (V_pickT rfl rfl rfl) ?_ | refine L_v rfl rfl rfl (V_pickF rfl rfl rfl) ?_
      refine L_v rfl rfl rfl (V_move rfl rfl) ?_
      refine L_wv rfl rfl rfl rfl rfl rfl (V_move rfl rfl) ?_
      refine L_wv rfl rfl rfl rfl rfl rfl (V_len rfl rfl Try.underlying22 rfl) ?_
      refine L_wv rfl rfl rfl rfl rfl rfl (V_eql rfl rfl rfl (by first | exact decide_eq_true (by omega) | exact decide_eq_true (by rw [at1e]; rfl) | exact decide_eq_false (by omega) | rfl)) ?_
      first | refine L_v rfl rfl rfl (V_pickT rfl rfl rfl) ?_ | refine L_v rfl rfl rfl (V_pickF rfl rfl rfl) ?_
      refine L_v rfl rfl rfl (V_assign rfl rfl) ?_
      refine L_nil ?_
      change J _ _ _ _
      refine J_ret ?_
      change Kret _ _ _ Exit.ret _
      refine ret1 rfl rfl (RV_t rfl) ?_
      exact fun w' h => ⟨rfl, h.fr⟩

theorem VersionAt_w (u : Value) (n : Nat) (l : List Ver) (ep : Int) (w : World) (hl : l.length = n) (hv : SlC 3 w u n (vcs l)) (hq : ∀ a n c, u = .slice a n c → n ≤ c) :
    Calls Try.prog 6 #[u, .int .i64 ep] w fun e w' => e = .returned (.bool true) ∧ Fr [] w w' := by
  obtain ⟨a, c, rfl⟩ := hv.form
  have hcn := hq _ _ _ rfl
  by_cases h : 0 < (atV l ep).length
  · exact VersionAt_p a n c l w hl hv hcn ep h
  · exact VersionAt_z a n c l w hl hv hcn ep (by omega)
end Go.Proofs.Ythafhiemecfjiaa
