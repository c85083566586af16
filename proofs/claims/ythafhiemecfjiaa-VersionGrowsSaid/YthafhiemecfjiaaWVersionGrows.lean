/- What the law comes to. -/
import Derived.Test.YthafhiemecfjiaaVersion4
set_option linter.unusedVariables false
set_option linter.unusedSimpArgs false
set_option maxRecDepth 100000
namespace Go.Proofs.Ythafhiemecfjiaa
open Go.Sx
theorem bneF {b c : Bool} (h : b = c) : (!(b == c)) = false := by subst h; cases b <;> rfl
theorem sz3z : (Try.prog.info? 3).map (·.size) = some 1 := by kernel_rfl
theorem sz33z : (Try.prog.info? 33).map (·.size) = some 3 := by kernel_rfl
theorem tx10z : Txt Try.prog 10 := txt_of Try.func10 rfl (by kernel_rfl)
theorem tx13z : Txt Try.prog 13 := txt_of Try.func13 rfl (by kernel_rfl)
theorem tx15z : Txt Try.prog 15 := txt_of Try.func15 rfl (by kernel_rfl)
theorem tx16z : Txt Try.prog 16 := txt_of Try.func16 rfl (by kernel_rfl)
theorem tx18z : Txt Try.prog 18 := txt_of Try.func18 rfl (by kernel_rfl)
theorem tx19z : Txt Try.prog 19 := txt_of Try.func19 rfl (by kernel_rfl)

theorem VersionGrows_no (a : Option Addr) (n c : Nat) (l : List Ver) (w : World) (hl : l.length = n) (hu : SlC 3 w (.slice a n c) n (vcs l)) (hcn : n ≤ c) (v : Ver) (ep : Int) (h : nextE l v ≠ 0) :
    Calls Try.prog 7 #[.slice a n c, .agg (vc v).toArray, .int .i64 ep] w fun e w' => e = .returned (.bool true) ∧ Fr [] w w' := by
  refine calls_of (args := [.slice a n c, .agg (vc v).toArray, .int .i64 ep]) ([]) ([]) ([]) Try.func7 rfl rfl (okW0 _ _ _ _) ?_
  refine J_seq ?_
  refine J_region ?_
  refine L_box rfl rfl rfl rfl rfl (fun b0 => ?_)
  refine L_v rfl rfl rfl (V_assign rfl rfl) ?_
  refine L_nil ?_
  change J _ _ _ _
  refine J_seq ?_
  refine J_seq ?_
  refine J_region ?_
  refine L_v rfl rfl rfl (V_move rfl rfl) ?_
  refine L_v rfl rfl rfl (V_len rfl rfl Try.underlying22 rfl) ?_
  refine L_v rfl rfl rfl (V_gtr rfl rfl rfl (by first | exact decide_eq_true (by omega) | exact decide_eq_false (by omega) | rfl)) ?_
  refine L_nil ?_
  change J _ _ _ _
  refine J_cond rfl (fun h1 => ?_) (fun h1 => ?_)
  ·
    first | (have h1 := h1; rw [decide_eq_true_eq] at h1) | (have h1 := h1; rw [decide_eq_false_iff_not] at h1) | skip
    refine J_seq ?_
    refine J_region ?_
    refine L_v rfl rfl rfl (V_assign rfl rfl) ?_
    refine L_nil ?_
    change J _ _ _ _
    refine J_ret ?_
    change Kret _ _ _ Exit.ret _
    refine ret1 rfl rfl (RV_t rfl) ?_
    exact fun w' h => ⟨rfl, h.fr⟩
  ·
    first | (have h1 := h1; rw [decide_eq_true_eq] at h1) | (have h1 := h1; rw [decide_eq_false_iff_not] at h1) | skip
    refine J_skip ?_
    change J _ _ _ _
    refine J_seq ?_
    refine J_region ?_
    refine L_v rfl rfl rfl (V_move rfl rfl) ?_
    refine L_v rfl rfl rfl (V_loadW 0 rfl rfl rfl Try.underlying33 rfl (szd sz33z (by first | rfl | (simp [dg_length, zd_length, *]; done)))) ?_
    refine L_callV rfl rfl rfl rfl rfl rfl tx16z (fun w hw => next_no _ _ _ l w hl (SlC.later hw rfl hu) (by omega) hcn v h) ?_
    refine L_v rfl rfl rfl (V_move rfl rfl) ?_
    refine L_v rfl rfl rfl (V_extract rfl rfl rfl) ?_
    refine L_v rfl rfl rfl (V_extract rfl rfl rfl) ?_
    refine L_v rfl rfl rfl (V_assign rfl rfl) ?_
    refine L_v rfl rfl rfl (V_assign rfl rfl) ?_
    refine L_nil ?_
    change J _ _ _ _
    refine J_seq ?_
    refine J_seq ?_
    refine J_region ?_
    refine L_v rfl rfl rfl (V_move rfl rfl) ?_
    refine L_v rfl rfl rfl (V_neq rfl rfl rfl (by first | exact decide_eq_true (by omega) | exact decide_eq_false (by omega) | rfl)) ?_
    refine L_nil ?_
    change J _ _ _ _
    refine J_true rfl ?_
    refine J_seq ?_
    refine J_region ?_
    refine L_callV rfl rfl rfl rfl rfl rfl tx13z (fun w _ => histories_w w) ?_
    refine L_v rfl rfl rfl (V_move rfl rfl) ?_
    refine L_wcallV rfl rfl rfl rfl rfl rfl rfl rfl rfl tx18z (fun w _ => nexts_w w) ?_
    first | refine L_v rfl rfl rfl (V_pickT rfl rfl rfl) ?_ | refine L_v rfl rfl rfl (V_pickF rfl rfl rfl) ?_
    refine L_v rfl rfl rfl (V_move rfl rfl) ?_
    refine L_wv rfl rfl rfl rfl rfl rfl (V_move rfl rfl) ?_
    refine L_wv rfl rfl rfl rfl rfl rfl (V_len rfl rfl Try.underlying22 rfl) ?_
    refine L_wv rfl rfl rfl rfl rfl rfl (V_eql rfl rfl rfl (by first | exact decide_eq_true (by omega) | exact decide_eq_false (by omega) | rfl)) ?_
    first | refine L_v rfl rfl rfl (V_pickT rfl rfl rfl) ?_ | refine L_v rfl rfl rfl (V_pickF rfl rfl rfl) ?_
    refine L_v rfl rfl rfl (V_assign rfl rfl) ?_
    refine L_nil ?_
    change J _ _ _ _
    refine J_ret ?_
    change Kret _ _ _ Exit.ret _
    refine ret1 rfl rfl (RV_t rfl) ?_
    exact fun w' h => ⟨rfl, h.fr⟩

theorem VersionGrows_ok (a : Option Addr) (n c : Nat) (l : List Ver) (w : World) (hl : l.length = n) (hu : SlC 3 w (.slice a n c) n (vcs l)) (hcn : n ≤ c) (v : Ver) (ep : Int) (h : nextE l v = 0) :
    Calls Try.prog 7 #[.slice a n c, .agg (vc v).toArray, .int .i64 ep] w fun e w' => e = .returned (.bool true) ∧ Fr [] w w' := by
  have hlen := (nextE_ok h).2.2.2.2
  have hh := nextE_isH h
  have hal := atV_len l ep
  have hbl := atV_len (l ++ [v]) ep
  rw [List.length_append, List.length_singleton] at hbl
  have htk : (l ++ [v]).take n = l := by rw [← hl, List.take_left]
  refine calls_of (args := [.slice a n c, .agg (vc v).toArray, .int .i64 ep]) ([]) ([]) ([]) Try.func7 rfl rfl (okW0 _ _ _ _) ?_
  refine J_seq ?_
  refine J_region ?_
  refine L_box rfl rfl rfl rfl rfl (fun b0 => ?_)
  refine L_v rfl rfl rfl (V_assign rfl rfl) ?_
  refine L_nil ?_
  change J _ _ _ _
  refine J_seq ?_
  refine J_seq ?_
  refine J_region ?_
  refine L_v rfl rfl rfl (V_move rfl rfl) ?_
  refine L_v rfl rfl rfl (V_len rfl rfl Try.underlying22 rfl) ?_
  refine L_v rfl rfl rfl (V_gtr rfl rfl rfl (by first | exact decide_eq_true (by omega) | exact decide_eq_false (by omega) | rfl)) ?_
  refine L_nil ?_
  change J _ _ _ _
  refine J_cond rfl (fun h1 => ?_) (fun h1 => ?_)
  ·
    first | (have h1 := h1; rw [decide_eq_true_eq] at h1) | (have h1 := h1; rw [decide_eq_false_iff_not] at h1) | skip
    refine J_seq ?_
    refine J_region ?_
    refine L_v rfl rfl rfl (V_assign rfl rfl) ?_
    refine L_nil ?_
    change J _ _ _ _
    refine J_ret ?_
    change Kret _ _ _ Exit.ret _
    refine ret1 rfl rfl (RV_t rfl) ?_
    exact fun w' h => ⟨rfl, h.fr⟩
  ·
    first | (have h1 := h1; rw [decide_eq_true_eq] at h1) | (have h1 := h1; rw [decide_eq_false_iff_not] at h1) | skip
    refine J_skip ?_
    change J _ _ _ _
    refine J_seq ?_
    refine J_region ?_
    refine L_v rfl rfl rfl (V_move rfl rfl) ?_
    refine L_v rfl rfl rfl (V_loadW 0 rfl rfl rfl Try.underlying33 rfl (szd sz33z (by first | rfl | (simp [dg_length, zd_length, *]; done)))) ?_
    refine L_callO rfl rfl rfl rfl rfl rfl tx16z (fun w hw => next_ok _ _ _ l w hl (SlC.later hw rfl hu) (by omega) hcn v h) (fun q1 hq1 => ?_)
    obtain ⟨g1, c1, r1, rfl, hk1, hc1, hr1⟩ := hq1.forms (by omega)
    refine L_v rfl rfl rfl (V_move rfl rfl) ?_
    refine L_v rfl rfl rfl (V_extract rfl rfl rfl) ?_
    refine L_v rfl rfl rfl (V_extract rfl rfl rfl) ?_
    refine L_v rfl rfl rfl (V_assign rfl rfl) ?_
    refine L_v rfl rfl rfl (V_assign rfl rfl) ?_
    refine L_nil ?_
    change J _ _ _ _
    refine J_seq ?_
    refine J_seq ?_
    refine J_region ?_
    refine L_v rfl rfl rfl (V_move rfl rfl) ?_
    refine L_v rfl rfl rfl (V_neq rfl rfl rfl (by first | exact decide_eq_true (by omega) | exact decide_eq_false (by omega) | rfl)) ?_
    refine L_nil ?_
    change J _ _ _ _
    refine J_false rfl ?_
    refine J_skip ?_
    change J _ _ _ _
    refine J_seq ?_
    refine J_region ?_
    refine L_v rfl rfl rfl (V_move rfl rfl) ?_
    refine L_v rfl rfl rfl (V_move rfl rfl) ?_
    refine L_callO rfl rfl rfl rfl rfl rfl tx19z (fun w hw => at_w _ _ _ l w hl (SlC.later hw rfl hu) (by omega) hcn ep) (fun q2 hq2 => ?_)
    refine L_v rfl rfl rfl (V_assign rfl rfl) ?_
    refine L_nil ?_
    change J _ _ _ _
    refine J_seq ?_
    refine J_region ?_
    refine L_v rfl rfl rfl (V_move rfl rfl) ?_
    refine L_v rfl rfl rfl (V_move rfl rfl) ?_
    refine L_callO rfl rfl rfl rfl rfl rfl tx19z (fun w hw => at_w (some ⟨g1, 0, none⟩) (n + 1) c1 (l ++ [v]) w (by rw [List.length_append, hl]; rfl) (SlC.in hw (T := 33) (ks := vcs (l ++ [v])) (r := r1) (fz := (0, 0)) (List.mem_append_left _ (List.mem_append_right _ (List.mem_singleton.2 rfl))) hk1 c1) (by omega) hc1 ep) (fun q3 hq3 => ?_)
    refine L_v rfl rfl rfl (V_assign rfl rfl) ?_
    refine L_nil ?_
    change J _ _ _ _
    refine J_seq ?_
    refine J_region ?_
    refine L_v rfl rfl rfl (V_move rfl rfl) ?_
    refine L_callV rfl rfl rfl rfl rfl rfl tx10z (fun w hw => check_t (some ⟨g1, 0, none⟩) (n + 1) c1 (l ++ [v]) w (by rw [List.length_append, hl]; rfl) (SlC.in hw (T := 33) (ks := vcs (l ++ [v])) (r := r1) (fz := (0, 0)) (List.mem_append_left _ (List.mem_append_left _ (List.mem_append_right _ (List.mem_singleton.2 rfl)))) hk1 c1) (by omega) hc1 hh) ?_
    refine L_v rfl rfl rfl (V_eql rfl rfl rfl (by first | exact decide_eq_true (by omega) | exact decide_eq_false (by omega) | rfl)) ?_
    refine L_v rfl rfl rfl (V_move rfl rfl) ?_
    refine L_wv rfl rfl rfl rfl rfl rfl (V_move rfl rfl) ?_
    refine L_wv rfl rfl rfl rfl rfl rfl (V_len rfl rfl Try.underlying22 rfl) ?_
    refine L_wv rfl rfl rfl rfl rfl rfl (V_move rfl rfl) ?_
    refine L_wv rfl rfl rfl rfl rfl rfl (V_len rfl rfl Try.underlying22 rfl) ?_
    refine L_wv rfl rfl rfl rfl rfl rfl (V_add rfl rfl rfl (by first | exact Go.IntWalk.i64_in _ (by omega) | rfl)) ?_
    refine L_wv rfl rfl rfl rfl rfl rfl (V_eql rfl rfl rfl (by first | exact decide_eq_true (by omega) | exact decide_eq_false (by omega) | rfl)) ?_
    first | refine L_v rfl rfl rfl (V_pickT rfl rfl rfl) ?_ | refine L_v rfl rfl rfl (V_pickF rfl rfl rfl) ?_
    refine L_v rfl rfl rfl (V_move rfl rfl) ?_
    refine L_wv rfl rfl rfl rfl rfl rfl (V_move rfl rfl) ?_
    refine L_wv rfl rfl rfl rfl rfl rfl (V_move rfl rfl) ?_
    refine L_wv rfl rfl rfl rfl rfl rfl (V_len rfl rfl Try.underlying22 rfl) ?_
    refine L_wv rfl rfl rfl rfl rfl rfl (V_slice0 rfl rfl Try.underlying22 sz33z (Bd.at (v := n) rfl rfl) rfl rfl (by first | omega | (show n ≤ n + 1; omega) | (show n ≤ c1; omega) | (show _ ≤ _; simp; omega)) (by first | omega | (show n ≤ n + 1; omega) | (show n ≤ c1; omega) | (show _ ≤ _; simp; omega))) ?_
    refine L_wv rfl rfl rfl rfl rfl rfl (V_move rfl rfl) ?_
    refine L_wcallV rfl rfl rfl rfl rfl rfl rfl rfl rfl tx15z (fun w hw => same_t _ _ _ _ _ _ ((l ++ [v]).take n) l w (by rw [htk, hl]) (vcs_take (l ++ [v]) n ▸ SlC.take (SlC.in hw (T := 33) (ks := vcs (l ++ [v])) (r := r1) (fz := (0, 0)) (List.mem_append_left _ (List.mem_append_left _ (List.mem_append_right _ (List.mem_singleton.2 rfl)))) hk1 c1) (by omega) _) hl (SlC.later hw rfl hu) (by omega) (by omega) htk) ?_
    first | refine L_v rfl rfl rfl (V_pickT rfl rfl rfl) ?_ | refine L_v rfl rfl rfl (V_pickF rfl rfl rfl) ?_
    refine L_v rfl rfl rfl (V_move rfl rfl) ?_
    refine L_wv rfl rfl rfl rfl rfl rfl (V_move rfl rfl) ?_
    refine L_wcallV rfl rfl rfl rfl rfl rfl rfl rfl rfl tx10z (fun w hw => check_t (oA q3) (atV (l ++ [v]) ep).length (oC q3) (atV (l ++ [v]) ep) w rfl (SlC.ofM hw (fun p hp => by first | exact hp | exact List.mem_append_right _ hp | exact List.mem_append_left _ hp | exact List.mem_append_left _ (List.mem_append_right _ hp) | exact List.mem_append_left _ (List.mem_append_left _ hp) | exact List.mem_append_left _ (List.mem_append_left _ (List.mem_append_right _ hp)) | exact List.mem_append_left _ (List.mem_append_left _ (List.mem_append_left _ hp))) hq3) (by omega) hq3.le (atV_isH hh)) ?_
    refine L_wv rfl rfl rfl rfl rfl rfl (V_eql rfl rfl rfl (by first | exact decide_eq_true (by omega) | exact decide_eq_false (by omega) | rfl)) ?_
    first | refine L_v rfl rfl rfl (V_pickT rfl rfl rfl) ?_ | refine L_v rfl rfl rfl (V_pickF rfl rfl rfl) ?_
    refine L_v rfl rfl rfl (V_assign rfl rfl) ?_
    refine L_nil ?_
    change J _ _ _ _
    refine J_seq ?_
    refine J_region ?_
    refine L_callV rfl rfl rfl rfl rfl rfl tx13z (fun w _ => histories_w w) ?_
    refine L_v rfl rfl rfl (V_move rfl rfl) ?_
    refine L_wcallV rfl rfl rfl rfl rfl rfl rfl rfl rfl tx18z (fun w _ => nexts_w w) ?_
    first | refine L_v rfl rfl rfl (V_pickT rfl rfl rfl) ?_ | refine L_v rfl rfl rfl (V_pickF rfl rfl rfl) ?_
    refine L_v rfl rfl rfl (V_move rfl rfl) ?_
    refine L_wv rfl rfl rfl rfl rfl rfl (V_move rfl rfl) ?_
    first | refine L_v rfl rfl rfl (V_pickT rfl rfl rfl) ?_ | refine L_v rfl rfl rfl (V_pickF rfl rfl rfl) ?_
    refine L_v rfl rfl rfl (V_move rfl rfl) ?_
    refine L_wv rfl rfl rfl rfl rfl rfl (V_fieldAddr rfl rfl Try.underlying33 rfl sz3z rfl) ?_
    refine L_wv rfl rfl rfl rfl rfl rfl (V_load1 0 rfl rfl rfl Try.underlying3 rfl (by first | rfl | simp)) ?_
    refine L_wv rfl rfl rfl rfl rfl rfl (V_move rfl rfl) ?_
    refine L_wv rfl rfl rfl rfl rfl rfl (V_leq rfl rfl rfl (by first | exact decide_eq_true (by omega) | exact decide_eq_false (by omega) | rfl)) ?_
    refine L_wv rfl rfl rfl rfl rfl rfl (V_move rfl rfl) ?_
    refine L_split 74 rfl (fun h2 => ?_) (fun h2 => ?_)
    ·
      first | (have h2 := h2; rw [decide_eq_true_eq] at h2) | (have h2 := h2; rw [decide_eq_false_iff_not] at h2) | skip
      refine L_skip rfl rfl rfl rfl rfl rfl rfl ?_
      refine L_skip rfl rfl rfl rfl rfl rfl rfl ?_
      refine L_skip rfl rfl rfl rfl rfl rfl rfl ?_
      first | refine L_wv rfl rfl rfl rfl rfl rfl (V_pickT rfl rfl rfl) ?_ | refine L_wv rfl rfl rfl rfl rfl rfl (V_pickF rfl rfl rfl) ?_
      first | refine L_v rfl rfl rfl (V_pickT rfl rfl rfl) ?_ | refine L_v rfl rfl rfl (V_pickF rfl rfl rfl) ?_
      refine L_v rfl rfl rfl (V_assign rfl rfl) ?_
      refine L_nil ?_
      change J _ _ _ _
      refine J_ret ?_
      change Kret _ _ _ Exit.ret _
      refine ret1 rfl rfl (RV_t rfl) ?_
      exact fun w' h => ⟨rfl, h.fr⟩
    ·
      first | (have h2 := h2; rw [decide_eq_true_eq] at h2) | (have h2 := h2; rw [decide_eq_false_iff_not] at h2) | skip
      refine L_wv rfl rfl rfl rfl rfl rfl (V_move rfl rfl) ?_
      refine L_wv rfl rfl rfl rfl rfl rfl (V_move rfl rfl) ?_
      refine L_wcallV rfl rfl rfl rfl rfl rfl rfl rfl rfl tx15z (fun w hw => same_t (oA q2) (oA q3) (atV l ep).length (oC q2) (atV (l ++ [v]) ep).length (oC q3) (atV l ep) (atV (l ++ [v]) ep) w rfl (SlC.ofM hw (fun p hp => by first | exact hp | exact List.mem_append_right _ hp | exact List.mem_append_left _ hp | exact List.mem_append_left _ (List.mem_append_right _ hp) | exact List.mem_append_left _ (List.mem_append_left _ hp) | exact List.mem_append_left _ (List.mem_append_left _ (List.mem_append_right _ hp)) | exact List.mem_append_left _ (List.mem_append_left _ (List.mem_append_left _ hp))) hq2) rfl (SlC.ofM hw (fun p hp => by first | exact hp | exact List.mem_append_right _ hp | exact List.mem_append_left _ hp | exact List.mem_append_left _ (List.mem_append_right _ hp) | exact List.mem_append_left _ (List.mem_append_left _ hp) | exact List.mem_append_left _ (List.mem_append_left _ (List.mem_append_right _ hp)) | exact List.mem_append_left _ (List.mem_append_left _ (List.mem_append_left _ hp))) hq3) (by omega) (by omega) (atV_app hh (by omega)).symm) ?_
      first | refine L_wv rfl rfl rfl rfl rfl rfl (V_pickT rfl rfl rfl) ?_ | refine L_wv rfl rfl rfl rfl rfl rfl (V_pickF rfl rfl rfl) ?_
      first | refine L_v rfl rfl rfl (V_pickT rfl rfl rfl) ?_ | refine L_v rfl rfl rfl (V_pickF rfl rfl rfl) ?_
      refine L_v rfl rfl rfl (V_assign rfl rfl) ?_
      refine L_nil ?_
      change J _ _ _ _
      refine J_ret ?_
      change Kret _ _ _ Exit.ret _
      refine ret1 rfl rfl (RV_t rfl) ?_
      exact fun w' h => ⟨rfl, h.fr⟩

theorem VersionGrows_w (u : Value) (n : Nat) (l : List Ver) (v : Ver) (ep : Int) (w : World) (hl : l.length = n) (hv : SlC 3 w u n (vcs l)) (hq : ∀ a n c, u = .slice a n c → n ≤ c) :
    Calls Try.prog 7 #[u, .agg (vc v).toArray, .int .i64 ep] w fun e w' => e = .returned (.bool true) ∧ Fr [] w w' := by
  obtain ⟨a, c, rfl⟩ := hv.form
  have hcn := hq _ _ _ rfl
  by_cases h : nextE l v = 0
  · exact VersionGrows_ok a n c l w hl hv hcn v ep h
  · exact VersionGrows_no a n c l w hl hv hcn v ep h
end Go.Proofs.Ythafhiemecfjiaa
