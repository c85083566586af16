/- What the functions of layer 7 that make lists come to. -/
import Derived.Test.YthafhiemecfjiaaVersion2
set_option linter.unusedVariables false
set_option linter.unusedSimpArgs false
set_option maxRecDepth 100000
namespace Go.Proofs.Ythafhiemecfjiaa
open Go.Sx
theorem may_b {v : Ver} {b : Bool} (h : mayV v = b) (w : World) : Calls Try.prog 28 #[.agg (vc v).toArray] w fun e w' => e = .returned (.bool b) ∧ Fr [] w w' := h ▸ may_w v w
theorem rmay_b {v : Ver} {b : Bool} (h : mayV v = b) (w : World) : Calls Try.prog 31 #[.agg (vc v).toArray] w fun e w' => e = .returned (.bool b) ∧ Fr [] w w' := h ▸ rmay_w v w
theorem open_b {v : Ver} {b : Bool} (h : openV v = b) (w : World) : Calls Try.prog 29 #[.agg (vc v).toArray] w fun e w' => e = .returned (.bool b) ∧ Fr [] w w' := h ▸ open_w v w
theorem check_t (a : Option Addr) (n c : Nat) (l : List Ver) (w : World) (hl : l.length = n) (hu : SlC 3 w (.slice a n c) n (vcs l)) (hn : n ≤ 1048576) (hcn : n ≤ c) (h : isH l = true) : Calls Try.prog 10 #[.slice a n c] w fun e w' => e = .returned (.int .i64 0) ∧ Fr [] w w' := by
  have := check_w a n c l w hl hu hn hcn
  rwa [if_pos h] at this
theorem ish_b (a : Option Addr) (n c : Nat) (l : List Ver) (w : World) (hl : l.length = n) (hu : SlC 3 w (.slice a n c) n (vcs l)) (hn : n ≤ 1048576) {b : Bool} (h : isH l = b) : Calls Try.prog 14 #[.slice a n c] w fun e w' => e = .returned (.bool b) ∧ Fr [] w w' := h ▸ ish_w a n c l w hl hu hn
theorem memE (x : Nat × Obj) (A : Mem) : [x] ++ A = [x] ++ (A ++ []) := by simp
theorem if50 {b : Bool} (h : (if b = true then (0 : Int) else 50) ≠ 0) : b = false := by cases b; rfl; exact absurd rfl h
theorem if0 {b : Bool} (h : ¬ (if b = true then (0 : Int) else 50) ≠ 0) : b = true := by
  cases b
  · exact absurd (by decide) h
  · rfl
theorem sz3x : (Try.prog.info? 3).map (·.size) = some 1 := by kernel_rfl
theorem sz31x : (Try.prog.info? 31).map (·.size) = some 1 := by kernel_rfl
theorem sz33x : (Try.prog.info? 33).map (·.size) = some 3 := by kernel_rfl
theorem tx10x : Txt Try.prog 10 := txt_of Try.func10 rfl (by kernel_rfl)
theorem tx12x : Txt Try.prog 12 := txt_of Try.func12 rfl (by kernel_rfl)
theorem tx14x : Txt Try.prog 14 := txt_of Try.func14 rfl (by kernel_rfl)
theorem tx27x : Txt Try.prog 27 := txt_of Try.func27 rfl (by kernel_rfl)
theorem tx28x : Txt Try.prog 28 := txt_of Try.func28 rfl (by kernel_rfl)
theorem tx29x : Txt Try.prog 29 := txt_of Try.func29 rfl (by kernel_rfl)
theorem tx31x : Txt Try.prog 31 := txt_of Try.func31 rfl (by kernel_rfl)
theorem tx33x : Txt Try.prog 33 := txt_of Try.func33 rfl (by kernel_rfl)
theorem tx34x : Txt Try.prog 34 := txt_of Try.func34 rfl (by kernel_rfl)
theorem tx35x : Txt Try.prog 35 := txt_of Try.func35 rfl (by kernel_rfl)
theorem z33x : (Try.prog.info? 33).bind (·.zero) = some (.agg (vc v0).toArray) := by kernel_rfl

theorem clone_w (a : Option Addr) (n c : Nat) (l : List Ver) (w : World) (hl : l.length = n) (hu : SlC 3 w (.slice a n c) n (vcs l)) (hn : n ≤ 1048576) :
    Calls Try.prog 33 #[.slice a n c] w fun e w' => RetO 33 3 w (vcs l) n id e w' := by
  refine calls_of (args := [.slice a n c]) ([]) ([]) ([]) Try.func33 rfl rfl (okW0 _ _ _ _) ?_
  refine J_seq ?_
  refine J_region ?_
  refine L_v rfl rfl rfl (V_assign rfl rfl) ?_
  refine L_nil ?_
  change J _ _ _ _
  refine J_seq ?_
  refine J_seq ?_
  refine J_region ?_
  refine L_v rfl rfl rfl (V_move rfl rfl) ?_
  refine L_v rfl rfl rfl (V_eqN rfl rfl rfl Try.underlying22 rfl) ?_
  refine L_nil ?_
  change J _ _ _ _
  refine J_cond rfl (fun h1 => ?_) (fun h1 => ?_)
  ·
    first | (have h1 := h1; rw [decide_eq_true_eq] at h1) | (have h1 := h1; rw [decide_eq_false_iff_not] at h1) | skip
    refine J_seq ?_
    refine J_region ?_
    refine L_v rfl rfl rfl (V_assign rfl rfl) ?_
    refine L_nil ?_
    change J _ _ _ _
    refine J_ret ?_
    change Kret _ _ _ Exit.ret _
    refine ret1 rfl rfl (RV_t rfl) ?_
    obtain ⟨h0, hc0⟩ := SlC.none0 (Option.isNone_iff_eq_none.1 h1 ▸ hu)
    exact fun w' h => by rw [hc0]; exact RetO.nil h rfl h0 rfl
  ·
    first | (have h1 := h1; rw [decide_eq_true_eq] at h1) | (have h1 := h1; rw [decide_eq_false_iff_not] at h1) | skip
    refine J_skip ?_
    change J _ _ _ _
    refine J_seq ?_
    refine J_region ?_
    refine L_buildSlice (vs := []) (l := []) rfl rfl rfl rfl rfl bs0 (fun b0 => ?_)
    refine L_v rfl rfl rfl (V_move rfl rfl) ?_
    refine L_appO 0 [] [] (n := 0) (m := n) (n' := n) (ks' := vcs l) rfl rfl rfl rfl rfl Try.underlying22 elv rfl rfl rfl (Nat.le_refl _) (fun w hw => SlC.src Try.underlying22 (SlC.later hw rfl hu) (vcs_1 l)) (Nat.zero_add n) (List.nil_append _) (by omega) (by omega) (fun g1 c1 r1 hc1 hr1 => ?_)
    refine L_v rfl rfl rfl (V_assign rfl rfl) ?_
    refine L_nil ?_
    change J _ _ _ _
    refine J_ret ?_
    change Kret _ _ _ Exit.ret _
    refine ret1 rfl rfl (RV_t rfl) ?_
    exact fun w' h => RetO.of (q := some (g1, c1, r1)) (m1 := []) (m2 := []) h rfl ⟨by rw [vcs_len, hl], hc1, hr1⟩ rfl rfl

theorem at1_w (v : Ver) (ep : Int) (b : Nat) (w : World) (hb : w.heap[b]? = some (row 3 [.int .i64 ep])) :
    Calls Try.prog 35 #[.agg (vc v).toArray, .pointer (some ⟨b, 0, none⟩)] w fun e w' => e = .returned (.bool (decide (ep < v.1))) ∧ Fr [] w w' := by
  refine calls_of (args := [.agg (vc v).toArray, .pointer (some ⟨b, 0, none⟩)]) ([]) ([]) ([]) Try.func35 rfl rfl (okW0 _ _ _ _) ?_
  refine J_seq ?_
  refine J_region ?_
  refine L_box rfl rfl rfl rfl rfl (fun b0 => ?_)
  refine L_v rfl rfl rfl (V_assign rfl rfl) ?_
  refine L_nil ?_
  change J _ _ _ _
  refine J_seq ?_
  refine J_region ?_
  refine L_v rfl rfl rfl (V_fieldAddr rfl rfl Try.underlying33 rfl sz3x rfl) ?_
  refine L_v rfl rfl rfl (V_load1 0 rfl rfl rfl Try.underlying3 rfl (by first | rfl | simp)) ?_
  refine L_v rfl rfl rfl (V_loadF rfl rfl Try.underlying3 rfl (fun w hw => OkW.later hw rfl hb) rfl) ?_
  refine L_v rfl rfl rfl (V_gtr rfl rfl rfl (by first | exact decide_eq_true (by omega) | exact decide_eq_false (by omega) | rfl)) ?_
  refine L_v rfl rfl rfl (V_assign rfl rfl) ?_
  refine L_nil ?_
  change J _ _ _ _
  refine J_ret ?_
  change Kret _ _ _ Exit.ret _
  refine ret1 rfl rfl (RV_t rfl) ?_
  exact fun w' h => ⟨rfl, h.fr⟩

theorem idx_w (a : Option Addr) (n c : Nat) (l : List Ver) (w : World) (hl : l.length = n) (hu : SlC 3 w (.slice a n c) n (vcs l)) (hn : n ≤ 1048576) (ep : Int) (b : Nat) (hb : w.heap[b]? = some (row 3 [.int .i64 ep])) :
    Calls Try.prog 34 #[.slice a n c, .func (.func 35) #[] #[.pointer (some ⟨b, 0, none⟩)]] w fun e w' => e = .returned (.int .i64 (if cntV l ep = n then -1 else (cntV l ep : Int))) ∧ Fr [] w w' := by
  refine calls_of (args := [.slice a n c, .func (.func 35) #[] #[.pointer (some ⟨b, 0, none⟩)]]) ([]) ([]) ([]) Try.func34 rfl rfl (okW0 _ _ _ _) ?_
  refine J_seq ?_
  refine J_region ?_
  refine L_v rfl rfl rfl (V_assign rfl rfl) ?_
  refine L_nil ?_
  change J _ _ _ _
  refine J_seq ?_
  refine J_seq ?_
  refine J_region ?_
  refine L_v rfl rfl rfl (V_move rfl rfl) ?_
  refine L_v rfl rfl rfl (V_len rfl rfl Try.underlying22 rfl) ?_
  refine L_v rfl rfl rfl (V_move rfl rfl) ?_
  refine L_nil ?_
  change J _ _ _ _
  refine J_block ?_
  refine J_loop (X := Nat) (fun i => { env := [(0, .slice a n c), (1, .func (.func 35) #[] #[.pointer (some ⟨b, 0, none⟩)]), (7, .int .i64 (n : Int)), (8, .int .i64 (i : Int))] }) (fun i => i ≤ n ∧ i ≤ cntV l ep) (fun i => n - i) 0 ⟨Nat.zero_le _, Nat.zero_le _⟩ ⟨⟨rfl, rfl, rfl, rfl, trivial⟩, List.Sublist.refl _, fun f hf => hf, rfl⟩ ?_
  rintro i ⟨hi, hk⟩
  refine J_seq ?_
  refine J_region ?_
  refine L_v rfl rfl rfl (V_lss rfl rfl rfl (by first | exact decide_eq_true (by omega) | exact decide_eq_false (by omega) | rfl)) ?_
  refine L_nil ?_
  change J _ _ _ _
  refine J_seq ?_
  refine J_cond rfl (fun h1 => ?_) (fun h1 => ?_)
  ·
    first | (have h1 := h1; rw [decide_eq_true_eq] at h1) | (have h1 := h1; rw [decide_eq_false_iff_not] at h1) | skip
    refine J_skip ?_
    change J _ _ _ _
    refine J_seq ?_
    refine J_block ?_
    refine J_seq ?_
    refine J_region ?_
    refine L_v rfl rfl rfl (V_move rfl rfl) ?_
    refine L_v rfl rfl rfl (V_assign rfl rfl) ?_
    refine L_nil ?_
    change J _ _ _ _
    refine J_seq ?_
    refine J_region ?_
    refine L_v rfl rfl rfl (V_move rfl rfl) ?_
    refine L_v rfl rfl rfl (V_move rfl rfl) ?_
    refine L_v rfl rfl rfl (V_move rfl rfl) ?_
    refine L_v rfl rfl rfl (V_indexC rfl rfl rfl Try.underlying22 sz33x (fun w hw => SlC.later hw rfl hu) (by omega) (by omega)) ?_
    refine L_v rfl rfl rfl (V_loadCN (vs := vc (l.getD i v0)) rfl rfl Try.underlying33 rfl (szd sz33x (by first | rfl | (simp [dg_length, zd_length, *]; done))) (fun w hw => SlC.later hw rfl hu) (Nat.zero_lt_succ _) (vcs_v (by omega))) ?_
    refine L_callV rfl rfl rfl rfl rfl rfl tx35x (fun w hw => at1_w (l.getD i v0) ep b w (OkW.later hw rfl hb)) ?_
    refine L_nil ?_
    change J _ _ _ _
    refine J_cond rfl (fun h2 => ?_) (fun h2 => ?_)
    ·
      first | (have h2 := h2; rw [decide_eq_true_eq] at h2) | (have h2 := h2; rw [decide_eq_false_iff_not] at h2) | skip
      refine J_seq ?_
      refine J_region ?_
      refine L_v rfl rfl rfl (V_move rfl rfl) ?_
      refine L_v rfl rfl rfl (V_assign rfl rfl) ?_
      refine L_nil ?_
      change J _ _ _ _
      refine J_ret ?_
      change Kret _ _ _ Exit.ret _
      refine ret1 rfl rfl (RV_t rfl) ?_
      have h5 := cnt_stop hk (by omega) h2
      exact fun w' h => ⟨by rw [h5, if_neg (by omega)], h.fr⟩
    ·
      first | (have h2 := h2; rw [decide_eq_true_eq] at h2) | (have h2 := h2; rw [decide_eq_false_iff_not] at h2) | skip
      refine J_skip ?_
      change J _ _ _ _
      refine J_region ?_
      refine L_v rfl rfl rfl (V_add rfl rfl rfl (by first | exact Go.IntWalk.i64_in _ (by omega) | rfl)) ?_
      refine L_v rfl rfl rfl (V_move rfl rfl) ?_
      refine L_nil ?_
      exact ⟨i + 1, ⟨by omega, cnt_go hk (by omega) (by omega)⟩, by omega, ⟨rfl, rfl, rfl, rfl, trivial⟩, List.Sublist.refl _, fun f hf => hf, rfl⟩
  ·
    first | (have h1 := h1; rw [decide_eq_true_eq] at h1) | (have h1 := h1; rw [decide_eq_false_iff_not] at h1) | skip
    refine J_exit ?_
    change J _ _ _ _
    refine J_seq ?_
    refine J_region ?_
    refine L_v rfl rfl rfl (V_assign rfl rfl) ?_
    refine L_nil ?_
    change J _ _ _ _
    refine J_ret ?_
    change Kret _ _ _ Exit.ret _
    refine ret1 rfl rfl (RV_t rfl) ?_
    have h6 := cnt_le l ep
    exact fun w' h => ⟨by rw [if_pos (by omega)], h.fr⟩

theorem at_w (a : Option Addr) (n c : Nat) (l : List Ver) (w : World) (hl : l.length = n) (hu : SlC 3 w (.slice a n c) n (vcs l)) (hn : n ≤ 1048576) (hcn : n ≤ c) (ep : Int) :
    Calls Try.prog 19 #[.slice a n c, .int .i64 ep] w fun e w' => RetO 33 3 w (vcs (atV l ep)) (atV l ep).length id e w' := by
  refine calls_of (args := [.slice a n c, .int .i64 ep]) ([]) ([]) ([]) Try.func19 rfl rfl (okW0 _ _ _ _) ?_
  refine J_seq ?_
  refine J_region ?_
  refine L_box rfl rfl rfl rfl rfl (fun b0 => ?_)
  refine L_v rfl rfl rfl (V_assign rfl rfl) ?_
  refine L_nil ?_
  change J _ _ _ _
  refine J_seq ?_
  refine J_seq ?_
  refine J_region ?_
  refine L_v rfl rfl rfl (V_move rfl rfl) ?_
  refine L_callV rfl rfl rfl rfl rfl rfl tx10x (fun w hw => check_w _ _ _ l w hl (SlC.later hw rfl hu) hn hcn) ?_
  refine L_v rfl rfl rfl (V_neq rfl rfl rfl (by first | exact decide_eq_true (by omega) | exact decide_eq_false (by omega) | rfl)) ?_
  refine L_nil ?_
  change J _ _ _ _
  refine J_cond rfl (fun h1 => ?_) (fun h1 => ?_)
  ·
    first | (have h1 := h1; rw [decide_eq_true_eq] at h1) | (have h1 := h1; rw [decide_eq_false_iff_not] at h1) | skip
    refine J_seq ?_
    refine J_region ?_
    refine L_v rfl rfl rfl (V_assign rfl rfl) ?_
    refine L_nil ?_
    change J _ _ _ _
    refine J_ret ?_
    change Kret _ _ _ Exit.ret _
    refine ret1 rfl rfl (RV_t rfl) ?_
    have h9 : atV l ep = [] := by unfold atV; rw [if50 h1]; rfl
    exact fun w' h => by rw [h9]; exact RetO.nil h rfl rfl rfl
  ·
    first | (have h1 := h1; rw [decide_eq_true_eq] at h1) | (have h1 := h1; rw [decide_eq_false_iff_not] at h1) | skip
    have hh := if0 h1
    have hcl := cnt_le l ep
    refine J_skip ?_
    change J _ _ _ _
    refine J_seq ?_
    refine J_region ?_
    refine L_v rfl rfl rfl (V_move rfl rfl) ?_
    refine L_v rfl rfl rfl (V_makeFunc rfl rfl rfl) ?_
    refine L_callV rfl rfl rfl rfl rfl rfl tx34x (fun w hw => idx_w _ _ _ l w hl (SlC.later hw rfl hu) hn ep b0 (hw.at (i := 0) rfl)) ?_
    refine L_v rfl rfl rfl (V_assign rfl rfl) ?_
    refine L_nil ?_
    change J _ _ _ _
    refine J_seq ?_
    refine J_seq ?_
    refine J_region ?_
    refine L_v rfl rfl rfl (V_move rfl rfl) ?_
    refine L_v rfl rfl rfl (V_lss rfl rfl rfl (by first | exact decide_eq_true (by omega) | exact decide_eq_false (by omega) | rfl)) ?_
    refine L_nil ?_
    change J _ _ _ _
    refine J_cond rfl (fun h2 => ?_) (fun h2 => ?_)
    ·
      first | (have h2 := h2; rw [decide_eq_true_eq] at h2) | (have h2 := h2; rw [decide_eq_false_iff_not] at h2) | skip
      obtain ⟨k, hk, hkl, hkc⟩ : ∃ k : Nat, (n : Int) = k ∧ k ≤ n ∧ cntV l ep = k := ⟨n, rfl, Nat.le_refl _, by
        by_cases h3 : cntV l ep = n
        · exact h3
        · rw [if_neg h3] at h2; omega⟩
      refine J_region ?_
      refine L_v rfl rfl rfl (V_move rfl rfl) ?_
      refine L_v rfl rfl rfl (V_len rfl rfl Try.underlying22 rfl) ?_
      refine L_v rfl rfl rfl (V_assign rfl rfl) ?_
      refine L_nil ?_
      change J _ _ _ _
      refine J_seq ?_
      refine J_region ?_
      refine L_v rfl rfl rfl (V_move rfl rfl) ?_
      refine L_v rfl rfl rfl (V_move rfl rfl) ?_
      refine L_v rfl rfl rfl (V_slice0 rfl rfl Try.underlying22 sz33x (Bd.at (v := k) rfl hk) rfl rfl (by first | omega | (simp; omega)) (by first | omega | (simp; omega))) ?_
      refine L_callO rfl rfl rfl rfl rfl rfl tx33x (fun w hw => clone_w _ _ _ (l.take k) w (by rw [List.length_take]; omega) (vcs_take l k ▸ SlC.take (SlC.later hw rfl hu) (by omega) _) (by omega)) (fun q1 hq1 => ?_)
      refine L_v rfl rfl rfl (V_assign rfl rfl) ?_
      refine L_nil ?_
      change J _ _ _ _
      refine J_ret ?_
      change Kret _ _ _ Exit.ret _
      refine ret1 rfl rfl (RV_t rfl) ?_
      have h9 : atV l ep = l.take k := by rw [atV_cnt hh, hkc]
      have h8 : (l.take k).length = k := by rw [List.length_take]; omega
      exact fun w' h => by rw [h9, h8]; exact RetO.of (q := q1) (m1 := [(b0, row 3 [.int .i64 ep])]) (m2 := []) h rfl hq1 rfl (memE _ _)
    ·
      first | (have h2 := h2; rw [decide_eq_true_eq] at h2) | (have h2 := h2; rw [decide_eq_false_iff_not] at h2) | skip
      obtain ⟨k, hk, hkl, hkc⟩ : ∃ k : Nat, (if cntV l ep = n then -1 else (cntV l ep : Int)) = k ∧ k ≤ n ∧ cntV l ep = k := ⟨cntV l ep, by
        by_cases h3 : cntV l ep = n
        · rw [if_pos h3] at h2; omega
        · rw [if_neg h3], by omega, rfl⟩
      refine J_skip ?_
      change J _ _ _ _
      refine J_seq ?_
      refine J_region ?_
      refine L_v rfl rfl rfl (V_move rfl rfl) ?_
      refine L_v rfl rfl rfl (V_move rfl rfl) ?_
      refine L_v rfl rfl rfl (V_slice0 rfl rfl Try.underlying22 sz33x (Bd.at (v := k) rfl hk) rfl rfl (by first | omega | (simp; omega)) (by first | omega | (simp; omega))) ?_
      refine L_callO rfl rfl rfl rfl rfl rfl tx33x (fun w hw => clone_w _ _ _ (l.take k) w (by rw [List.length_take]; omega) (vcs_take l k ▸ SlC.take (SlC.later hw rfl hu) (by omega) _) (by omega)) (fun q1 hq1 => ?_)
      refine L_v rfl rfl rfl (V_assign rfl rfl) ?_
      refine L_nil ?_
      change J _ _ _ _
      refine J_ret ?_
      change Kret _ _ _ Exit.ret _
      refine ret1 rfl rfl (RV_t rfl) ?_
      have h9 : atV l ep = l.take k := by rw [atV_cnt hh, hkc]
      have h8 : (l.take k).length = k := by rw [List.length_take]; omega
      exact fun w' h => by rw [h9, h8]; exact RetO.of (q := q1) (m1 := [(b0, row 3 [.int .i64 ep])]) (m2 := []) h rfl hq1 rfl (memE _ _)

theorem rat_w (a : Option Addr) (n c : Nat) (l : List Ver) (w : World) (hl : l.length = n) (hu : SlC 3 w (.slice a n c) n (vcs l)) (hn : n ≤ 1048576) (ep : Int) :
    Calls Try.prog 20 #[.slice a n c, .int .i64 ep] w fun e w' => RetO 33 3 w (vcs (atV l ep)) (atV l ep).length id e w' := by
  refine calls_of (args := [.slice a n c, .int .i64 ep]) ([]) ([]) ([]) Try.func20 rfl rfl (okW0 _ _ _ _) ?_
  refine J_seq ?_
  refine J_region ?_
  refine L_v rfl rfl rfl (V_assign rfl rfl) ?_
  refine L_nil ?_
  change J _ _ _ _
  refine J_seq ?_
  refine J_region ?_
  refine L_v rfl rfl rfl (V_assign rfl rfl) ?_
  refine L_nil ?_
  change J _ _ _ _
  refine J_seq ?_
  refine J_seq ?_
  refine J_region ?_
  refine L_v rfl rfl rfl (V_move rfl rfl) ?_
  refine L_callV rfl rfl rfl rfl rfl rfl tx14x (fun w hw => ish_w _ _ _ l w hl (SlC.later hw rfl hu) hn) ?_
  refine L_v rfl rfl rfl (V_not rfl rfl rfl) ?_
  refine L_nil ?_
  change J _ _ _ _
  refine J_cond rfl (fun h1 => ?_) (fun h1 => ?_)
  ·
    first | (have h1 := h1; rw [decide_eq_true_eq] at h1) | (have h1 := h1; rw [decide_eq_false_iff_not] at h1) | skip
    refine J_seq ?_
    refine J_region ?_
    refine L_v rfl rfl rfl (V_move rfl rfl) ?_
    refine L_v rfl rfl rfl (V_assign rfl rfl) ?_
    refine L_nil ?_
    change J _ _ _ _
    refine J_ret ?_
    change Kret _ _ _ Exit.ret _
    refine ret1 rfl rfl (RV_t rfl) ?_
    have h9 : atV l ep = [] := by unfold atV; rw [nbT h1]; rfl
    exact fun w' h => by rw [h9]; exact RetO.nil h rfl rfl rfl
  ·
    first | (have h1 := h1; rw [decide_eq_true_eq] at h1) | (have h1 := h1; rw [decide_eq_false_iff_not] at h1) | skip
    have hh := nbF h1
    refine J_skip ?_
    change J _ _ _ _
    refine J_seq ?_
    refine J_seq ?_
    refine J_region ?_
    refine L_v rfl rfl rfl (V_assign rfl rfl) ?_
    refine L_nil ?_
    change J _ _ _ _
    refine J_block ?_
    refine J_loop (X := Nat × OwnR) (fun x => { env := [(0, .slice a n c), (1, .int .i64 ep), (5, ownV x.2 x.1), (6, .int .i64 (x.1 : Int))], mem := ownM 33 x.2 (vcs (l.take x.1)) }) (fun x => x.1 ≤ n ∧ x.1 ≤ cntV l ep ∧ OwnC 3 x.2 x.1 (vcs (l.take x.1))) (fun x => n - x.1) (0, none) ⟨Nat.zero_le _, Nat.zero_le _, ⟨rfl, rfl⟩⟩ ⟨⟨rfl, rfl, rfl, rfl, trivial⟩, List.Sublist.refl _, fun f hf => hf, rfl⟩ ?_
    rintro ⟨i, q⟩ ⟨hi, hk, hq⟩
    simp only at hi hk hq ⊢
    refine J_seq ?_
    refine J_seq ?_
    refine J_region ?_
    refine L_v rfl rfl rfl (V_move rfl rfl) ?_
    refine L_v rfl rfl rfl (V_move rfl rfl) ?_
    refine L_v rfl rfl rfl (V_len rfl rfl Try.underlying22 rfl) ?_
    refine L_v rfl rfl rfl (V_lss rfl rfl rfl (by first | exact decide_eq_true (by omega) | exact decide_eq_false (by omega) | rfl)) ?_
    refine L_v rfl rfl rfl (V_move rfl rfl) ?_
    refine L_split 15 rfl (fun h2 => ?_) (fun h2 => ?_)
    ·
      first | (have h2 := h2; rw [decide_eq_true_eq] at h2) | (have h2 := h2; rw [decide_eq_false_iff_not] at h2) | skip
      refine L_wv rfl rfl rfl rfl rfl rfl (V_move rfl rfl) ?_
      refine L_wv rfl rfl rfl rfl rfl rfl (V_move rfl rfl) ?_
      refine L_wv rfl rfl rfl rfl rfl rfl (V_indexC rfl rfl rfl Try.underlying22 sz33x (fun w hw => SlC.later hw rfl hu) (by omega) (by omega)) ?_
      refine L_wv rfl rfl rfl rfl rfl rfl (V_fieldC rfl rfl (fun w hw => (let ⟨b, o, e, _⟩ := SlC.cell (SlC.later hw rfl hu) (vcs_e (l := l) (i := i) (by omega)); ⟨b, o, e⟩)) Try.underlying33 rfl sz3x rfl) ?_
      refine L_wv rfl rfl rfl rfl rfl rfl (V_loadC rfl rfl Try.underlying3 rfl (fun w hw => SlC.later hw rfl hu) (vcs_e (by omega))) ?_
      refine L_wv rfl rfl rfl rfl rfl rfl (V_move rfl rfl) ?_
      refine L_wv rfl rfl rfl rfl rfl rfl (V_leq rfl rfl rfl (by first | exact decide_eq_true (by omega) | exact decide_eq_false (by omega) | rfl)) ?_
      first | refine L_v rfl rfl rfl (V_pickT rfl rfl rfl) ?_ | refine L_v rfl rfl rfl (V_pickF rfl rfl rfl) ?_
      refine L_nil ?_
      change J _ _ _ _
      refine J_cond rfl (fun h3 => ?_) (fun h3 => ?_)
      ·
        first | (have h3 := h3; rw [decide_eq_true_eq] at h3) | (have h3 := h3; rw [decide_eq_false_iff_not] at h3) | skip
        refine J_skip ?_
        change J _ _ _ _
        refine J_seq ?_
        refine J_block ?_
        refine J_region ?_
        refine L_v rfl rfl rfl (V_move rfl rfl) ?_
        refine L_v rfl rfl rfl (V_move rfl rfl) ?_
        refine L_v rfl rfl rfl (V_move rfl rfl) ?_
        refine L_v rfl rfl rfl (V_indexC rfl rfl rfl Try.underlying22 sz33x (fun w hw => SlC.later hw rfl hu) (by omega) (by omega)) ?_
        refine L_v rfl rfl rfl (V_loadCN (vs := vc (l.getD i v0)) rfl rfl Try.underlying33 rfl (szd sz33x (by first | rfl | (simp [dg_length, zd_length, *]; done))) (fun w hw => SlC.later hw rfl hu) (Nat.zero_lt_succ _) (vcs_v (by omega))) ?_
        refine L_buildSlice (vs := [(0, .agg (vc (l.getD i v0)).toArray)]) (l := vc (l.getD i v0)) rfl rfl rfl rfl rfl (bsV _) (fun b1 => ?_)
        refine L_appN [] [(b1, row 33 (vc (l.getD i v0)))] q (vcs (l.take i)) (n := i) (m := 1) (n' := i + 1) (ks' := vcs (l.take (i + 1))) rfl rfl rfl rfl rfl Try.underlying22 elv rfl hq (fun w hw => SlC.src Try.underlying22 (SlC.in hw (ks := vc (l.getD i v0)) (r := []) (fz := (0, 0)) (by first | exact List.mem_append_right _ (List.mem_singleton.2 rfl) | exact List.mem_append_left _ (List.mem_append_right _ (List.mem_singleton.2 rfl))) rfl 1) (vc_one _)) rfl (by rw [take_v (by omega), vcs_app, vcs_one]) (by omega) (by omega) (fun q' hq' => ?_)
        refine L_v rfl rfl rfl (V_assign rfl rfl) ?_
        refine L_nil ?_
        change J _ _ _ _
        refine J_region ?_
        refine L_v rfl rfl rfl (V_move rfl rfl) ?_
        refine L_v rfl rfl rfl (V_add rfl rfl rfl (by first | exact Go.IntWalk.i64_in _ (by omega) | rfl)) ?_
        refine L_v rfl rfl rfl (V_assign rfl rfl) ?_
        refine L_nil ?_
        exact ⟨(i + 1, q'), ⟨by show i + 1 ≤ n; omega, cnt_go hk (by omega) (by omega), hq'⟩, by show n - (i + 1) < n - i; omega, ⟨rfl, rfl, rfl, rfl, trivial⟩, List.sublist_append_left _ _, fun f hf => hf, rfl⟩
      ·
        first | (have h3 := h3; rw [decide_eq_true_eq] at h3) | (have h3 := h3; rw [decide_eq_false_iff_not] at h3) | skip
        refine J_exit ?_
        change J _ _ _ _
        refine J_seq ?_
        refine J_region ?_
        refine L_v rfl rfl rfl (V_move rfl rfl) ?_
        refine L_v rfl rfl rfl (V_assign rfl rfl) ?_
        refine L_nil ?_
        change J _ _ _ _
        refine J_ret ?_
        change Kret _ _ _ Exit.ret _
        refine ret1 rfl rfl (RV_t rfl) ?_
        have hci := cnt_stop hk (by omega) (by omega)
        have h9 : atV l ep = l.take i := by rw [atV_cnt hh, hci]
        have h8 : (l.take i).length = i := by rw [List.length_take]; omega
        exact fun w' h => by rw [h9, h8]; exact RetO.of (q := q) (m1 := []) (m2 := []) h rfl hq rfl (List.append_nil _).symm
    ·
      first | (have h2 := h2; rw [decide_eq_true_eq] at h2) | (have h2 := h2; rw [decide_eq_false_iff_not] at h2) | skip
      refine L_skip rfl rfl rfl rfl rfl rfl rfl ?_
      refine L_skip rfl rfl rfl rfl rfl rfl rfl ?_
      refine L_skip rfl rfl rfl rfl rfl rfl rfl ?_
      refine L_skip rfl rfl rfl rfl rfl rfl rfl ?_
      refine L_skip rfl rfl rfl rfl rfl rfl rfl ?_
      refine L_skip rfl rfl rfl rfl rfl rfl rfl ?_
      refine L_skip rfl rfl rfl rfl rfl rfl rfl ?_
      first | refine L_v rfl rfl rfl (V_pickT rfl rfl rfl) ?_ | refine L_v rfl rfl rfl (V_pickF rfl rfl rfl) ?_
      refine L_nil ?_
      change J _ _ _ _
      refine J_false rfl ?_
      refine J_exit ?_
      change J _ _ _ _
      refine J_seq ?_
      refine J_region ?_
      refine L_v rfl rfl rfl (V_move rfl rfl) ?_
      refine L_v rfl rfl rfl (V_assign rfl rfl) ?_
      refine L_nil ?_
      change J _ _ _ _
      refine J_ret ?_
      change Kret _ _ _ Exit.ret _
      refine ret1 rfl rfl (RV_t rfl) ?_
      have hcl := cnt_le l ep
      have hci : cntV l ep = i := by omega
      have h9 : atV l ep = l.take i := by rw [atV_cnt hh, hci]
      have h8 : (l.take i).length = i := by rw [List.length_take]; omega
      exact fun w' h => by rw [h9, h8]; exact RetO.of (q := q) (m1 := []) (m2 := []) h rfl hq rfl (List.append_nil _).symm

theorem next_ok (a : Option Addr) (n c : Nat) (l : List Ver) (w : World) (hl : l.length = n) (hu : SlC 3 w (.slice a n c) n (vcs l)) (hn : n ≤ 1048576) (hcn : n ≤ c) (v : Ver) (h : nextE l v = 0) :
    Calls Try.prog 16 #[.slice a n c, .agg (vc v).toArray] w fun e w' => RetO 33 3 w (vcs (l ++ [v])) (n + 1) (fun s => .tuple #[s, .int .i64 0]) e w' := by
  obtain ⟨g1, g2, g3, g4, g5⟩ := nextE_ok h
  refine calls_of (args := [.slice a n c, .agg (vc v).toArray]) ([]) ([]) ([]) Try.func16 rfl rfl (okW0 _ _ _ _) ?_
  refine J_seq ?_
  refine J_region ?_
  refine L_box rfl rfl rfl rfl rfl (fun b0 => ?_)
  refine L_v rfl rfl rfl (V_assign rfl rfl) ?_
  refine L_v rfl rfl rfl (V_assign rfl rfl) ?_
  refine L_nil ?_
  change J _ _ _ _
  refine J_seq ?_
  refine J_region ?_
  refine L_v rfl rfl rfl (V_move rfl rfl) ?_
  refine L_callV rfl rfl rfl rfl rfl rfl tx27x (fun w hw => last_w _ _ _ l w hl (SlC.later hw rfl hu) (by omega)) ?_
  refine L_alloc rfl rfl rfl rfl z33x (fun b1 => ?_)
  refine L_storeW 1 rfl rfl rfl rfl rfl rfl (szd sz33x (by first | rfl | (simp [dg_length, zd_length, *]; done))) (vc_one _) (by first | rfl | (simp [dg_length, zd_length, *]; done)) ?_
  refine L_nil ?_
  change J _ _ _ _
  refine J_seq ?_
  refine J_block ?_
  refine J_seq ?_
  refine J_region ?_
  refine L_v rfl rfl rfl (V_move rfl rfl) ?_
  refine L_callV rfl rfl rfl rfl rfl rfl tx10x (fun w hw => check_t _ _ _ l w hl (SlC.later hw rfl hu) hn hcn g1) ?_
  refine L_v rfl rfl rfl (V_neq rfl rfl rfl (by first | exact decide_eq_true (by omega) | exact decide_eq_false (by omega) | rfl)) ?_
  refine L_v rfl rfl rfl (V_move rfl rfl) ?_
  refine L_wv rfl rfl rfl rfl rfl rfl (V_loadW 0 rfl rfl rfl Try.underlying33 rfl (szd sz33x (by first | rfl | (simp [dg_length, zd_length, *]; done)))) ?_
  refine L_wcallV rfl rfl rfl rfl rfl rfl rfl rfl rfl tx28x (fun w _ => may_b g2 w) ?_
  refine L_wv rfl rfl rfl rfl rfl rfl (V_not rfl rfl rfl) ?_
  first | refine L_v rfl rfl rfl (V_pickT rfl rfl rfl) ?_ | refine L_v rfl rfl rfl (V_pickF rfl rfl rfl) ?_
  refine L_v rfl rfl rfl (V_move rfl rfl) ?_
  refine L_wv rfl rfl rfl rfl rfl rfl (V_fieldAddr rfl rfl Try.underlying33 rfl sz3x rfl) ?_
  refine L_wv rfl rfl rfl rfl rfl rfl (V_load1 0 rfl rfl rfl Try.underlying3 rfl (by first | rfl | simp)) ?_
  refine L_wv rfl rfl rfl rfl rfl rfl (V_fieldAddr rfl rfl Try.underlying33 rfl sz3x rfl) ?_
  refine L_wv rfl rfl rfl rfl rfl rfl (V_load1 1 rfl rfl rfl Try.underlying3 rfl (by first | rfl | simp)) ?_
  refine L_wv rfl rfl rfl rfl rfl rfl (V_lss rfl rfl rfl (by first | exact decide_eq_true (by omega) | exact decide_eq_false (by omega) | rfl)) ?_
  first | refine L_v rfl rfl rfl (V_pickT rfl rfl rfl) ?_ | refine L_v rfl rfl rfl (V_pickF rfl rfl rfl) ?_
  refine L_v rfl rfl rfl (V_assign rfl rfl) ?_
  refine L_nil ?_
  change J _ _ _ _
  refine J_false rfl ?_
  refine J_seq ?_
  refine J_region ?_
  refine L_v rfl rfl rfl (V_fieldAddr rfl rfl Try.underlying33 rfl sz31x rfl) ?_
  refine L_v rfl rfl rfl (V_load1 0 rfl rfl rfl Try.underlying31 rfl (by first | rfl | simp)) ?_
  refine L_v rfl rfl rfl (V_eql rfl rfl rfl (by first | exact decide_eq_true (by omega) | exact decide_eq_false (by omega) | rfl)) ?_
  refine L_v rfl rfl rfl (V_move rfl rfl) ?_
  refine L_split 29 rfl (fun h1 => ?_) (fun h1 => ?_)
  ·
    first | (have h1 := h1; rw [decide_eq_true_eq] at h1) | (have h1 := h1; rw [decide_eq_false_iff_not] at h1) | skip
    refine L_wv rfl rfl rfl rfl rfl rfl (V_loadW 1 rfl rfl rfl Try.underlying33 rfl (szd sz33x (by first | rfl | (simp [dg_length, zd_length, *]; done)))) ?_
    refine L_wcallV rfl rfl rfl rfl rfl rfl rfl rfl rfl tx29x (fun w _ => open_b (g4.trans (by first | exact decide_eq_true (by omega) | exact decide_eq_false (by omega))) w) ?_
    refine L_wv rfl rfl rfl rfl rfl rfl (V_not rfl rfl rfl) ?_
    first | refine L_v rfl rfl rfl (V_pickT rfl rfl rfl) ?_ | refine L_v rfl rfl rfl (V_pickF rfl rfl rfl) ?_
    refine L_v rfl rfl rfl (V_assign rfl rfl) ?_
    refine L_nil ?_
    change J _ _ _ _
    refine J_false rfl ?_
    refine J_seq ?_
    refine J_region ?_
    refine L_v rfl rfl rfl (V_fieldAddr rfl rfl Try.underlying33 rfl sz31x rfl) ?_
    refine L_v rfl rfl rfl (V_load1 0 rfl rfl rfl Try.underlying31 rfl (by first | rfl | simp)) ?_
    refine L_v rfl rfl rfl (V_neq rfl rfl rfl (by first | exact decide_eq_true (by omega) | exact decide_eq_false (by omega) | rfl)) ?_
    refine L_v rfl rfl rfl (V_move rfl rfl) ?_
    refine L_skip rfl rfl rfl rfl rfl rfl rfl ?_
    refine L_skip rfl rfl rfl rfl rfl rfl rfl ?_
    first | refine L_v rfl rfl rfl (V_pickT rfl rfl rfl) ?_ | refine L_v rfl rfl rfl (V_pickF rfl rfl rfl) ?_
    refine L_v rfl rfl rfl (V_assign rfl rfl) ?_
    refine L_nil ?_
    change J _ _ _ _
    refine J_false rfl ?_
    refine J_seq ?_
    refine J_region ?_
    refine L_v rfl rfl rfl (V_move rfl rfl) ?_
    refine L_v rfl rfl rfl (V_len rfl rfl Try.underlying22 rfl) ?_
    refine L_v rfl rfl rfl (V_eql rfl rfl rfl (by first | exact decide_eq_true (by omega) | exact decide_eq_false (by omega) | rfl)) ?_
    refine L_v rfl rfl rfl (V_assign rfl rfl) ?_
    refine L_nil ?_
    change J _ _ _ _
    refine J_false rfl ?_
    refine J_skip ?_
    change J _ _ _ _
    refine J_seq ?_
    refine J_regionO (.pure 0 (.pure 2 (.two 1 (.one 3 (.one 4 (.pure 5 (.pure 6 (.nil))))) 3 (.one 1 (.one 4 (.pure 5 (.pure 6 (.nil)))))))) ([(b0, row 33 (vc v)), (b1, row 33 (vc (lastV l)))]) _ (Pk.refl _) (fun f hf => hf) rfl rfl (by kernel_rfl) ?_
    refine LO_v rfl rfl rfl rfl (V_move rfl rfl) ?_
    refine LO_v rfl rfl rfl rfl (V_loadW 0 rfl rfl rfl Try.underlying33 rfl (szd sz33x (by first | rfl | (simp [dg_length, zd_length, *]; done)))) ?_
    refine LO_two rfl rfl rfl rfl rfl (S_callO rfl rfl rfl rfl rfl tx33x (fun w hw => clone_w _ _ _ l w hl (SlC.later hw rfl hu) hn) (fun q1 hq1 => ⟨(Pk.app (Pk.refl _) _), fun f hf => hf, ?_⟩)) (S_buildSlice (vs := [(0, .agg (vc v).toArray)]) (l := vc v) rfl rfl rfl rfl (bsV _) (fun b2 => ⟨(Pk.app (Pk.refl _) _), fun f hf => hf, ?_⟩))
    ·
      refine LO_s rfl rfl rfl (S_buildSlice (vs := [(0, .agg (vc v).toArray)]) (l := vc v) rfl rfl rfl rfl (bsV _) (fun b2 => ⟨(Pk.app (Pk.app (Pk.refl _) _) _), fun f hf => hf, ?_⟩)) 
      refine LO_s rfl rfl rfl (S_appendN [(b0, row 33 (vc v)), (b1, row 33 (vc (lastV l)))] [(b2, row 33 (vc v))] q1 (vcs l) (m := 1) (news := vc v) rfl rfl rfl rfl Try.underlying22 elv (by first | rfl | exact congrArg (fun x => ([(b0, row 33 (vc v)), (b1, row 33 (vc (lastV l)))] ++ [(b2, row 33 (vc v))]) ++ x) (List.append_nil _).symm) hq1 (fun w hw => SlC.src Try.underlying22 (SlC.in hw (ks := vc v) (r := []) (fz := (0, 0)) (by first | exact List.mem_append_right _ (List.mem_singleton.2 rfl) | exact List.mem_append_left _ (List.mem_append_right _ (List.mem_singleton.2 rfl))) rfl 1) (vc_one _)) (by omega) (by omega) (fun q2 hq2 => ⟨(Pk.of_sub (List.Sublist.cons_cons _ (List.Sublist.cons_cons _ (List.nil_sublist _)))), fun f hf => hf, ?_⟩)) 
      refine LO_v rfl rfl rfl rfl (V_assign rfl rfl) ?_
      refine LO_v rfl rfl rfl rfl (V_assign rfl rfl) ?_
      refine LO_nil ?_
      change J _ _ _ _
      refine J_ret ?_
      change Kret _ _ _ Exit.ret _
      refine ret2 rfl rfl (RV_t rfl) (RV_t rfl) ?_
      have e9 : vcs (l ++ [v]) = vcs l ++ vc v := by rw [vcs_app, vcs_one]
      exact fun w' h => by rw [e9]; first | exact RetO.of (q := q2) (m1 := [(b0, row 33 (vc v)), (b1, row 33 (vc (lastV l)))]) (m2 := [(b2, row 33 (vc v))]) h rfl hq2 rfl rfl | exact RetO.of (q := q2) (m1 := [(b0, row 33 (vc v)), (b1, row 33 (vc (lastV l)))] ++ [(b2, row 33 (vc v))]) (m2 := []) h rfl hq2 rfl rfl
    ·
      refine LO_s rfl rfl rfl (S_callO rfl rfl rfl rfl rfl tx33x (fun w hw => clone_w _ _ _ l w hl (SlC.later hw rfl hu) hn) (fun q1 hq1 => ⟨(Pk.app (Pk.app (Pk.refl _) _) _), fun f hf => hf, ?_⟩)) 
      refine LO_s rfl rfl rfl (S_appendN ([(b0, row 33 (vc v)), (b1, row 33 (vc (lastV l)))] ++ [(b2, row 33 (vc v))]) [] q1 (vcs l) (m := 1) (news := vc v) rfl rfl rfl rfl Try.underlying22 elv (by first | rfl | exact congrArg (fun x => ([(b0, row 33 (vc v)), (b1, row 33 (vc (lastV l)))] ++ [(b2, row 33 (vc v))]) ++ x) (List.append_nil _).symm) hq1 (fun w hw => SlC.src Try.underlying22 (SlC.in hw (ks := vc v) (r := []) (fz := (0, 0)) (by first | exact List.mem_append_right _ (List.mem_singleton.2 rfl) | exact List.mem_append_left _ (List.mem_append_right _ (List.mem_singleton.2 rfl))) rfl 1) (vc_one _)) (by omega) (by omega) (fun q2 hq2 => ⟨(Pk.of_sub (List.Sublist.cons_cons _ (List.Sublist.cons_cons _ (List.nil_sublist _)))), fun f hf => hf, ?_⟩)) 
      refine LO_v rfl rfl rfl rfl (V_assign rfl rfl) ?_
      refine LO_v rfl rfl rfl rfl (V_assign rfl rfl) ?_
      refine LO_nil ?_
      change J _ _ _ _
      refine J_ret ?_
      change Kret _ _ _ Exit.ret _
      refine ret2 rfl rfl (RV_t rfl) (RV_t rfl) ?_
      have e9 : vcs (l ++ [v]) = vcs l ++ vc v := by rw [vcs_app, vcs_one]
      exact fun w' h => by rw [e9]; first | exact RetO.of (q := q2) (m1 := [(b0, row 33 (vc v)), (b1, row 33 (vc (lastV l)))]) (m2 := [(b2, row 33 (vc v))]) h rfl hq2 rfl rfl | exact RetO.of (q := q2) (m1 := [(b0, row 33 (vc v)), (b1, row 33 (vc (lastV l)))] ++ [(b2, row 33 (vc v))]) (m2 := []) h rfl hq2 rfl rfl
  ·
    first | (have h1 := h1; rw [decide_eq_true_eq] at h1) | (have h1 := h1; rw [decide_eq_false_iff_not] at h1) | skip
    refine L_skip rfl rfl rfl rfl rfl rfl rfl ?_
    refine L_skip rfl rfl rfl rfl rfl rfl rfl ?_
    refine L_skip rfl rfl rfl rfl rfl rfl rfl ?_
    first | refine L_v rfl rfl rfl (V_pickT rfl rfl rfl) ?_ | refine L_v rfl rfl rfl (V_pickF rfl rfl rfl) ?_
    refine L_v rfl rfl rfl (V_assign rfl rfl) ?_
    refine L_nil ?_
    change J _ _ _ _
    refine J_false rfl ?_
    refine J_seq ?_
    refine J_region ?_
    refine L_v rfl rfl rfl (V_fieldAddr rfl rfl Try.underlying33 rfl sz31x rfl) ?_
    refine L_v rfl rfl rfl (V_load1 0 rfl rfl rfl Try.underlying31 rfl (by first | rfl | simp)) ?_
    refine L_v rfl rfl rfl (V_neq rfl rfl rfl (by first | exact decide_eq_true (by omega) | exact decide_eq_false (by omega) | rfl)) ?_
    refine L_v rfl rfl rfl (V_move rfl rfl) ?_
    refine L_wv rfl rfl rfl rfl rfl rfl (V_loadW 1 rfl rfl rfl Try.underlying33 rfl (szd sz33x (by first | rfl | (simp [dg_length, zd_length, *]; done)))) ?_
    refine L_wcallV rfl rfl rfl rfl rfl rfl rfl rfl rfl tx29x (fun w _ => open_b (g4.trans (by first | exact decide_eq_true (by omega) | exact decide_eq_false (by omega))) w) ?_
    first | refine L_v rfl rfl rfl (V_pickT rfl rfl rfl) ?_ | refine L_v rfl rfl rfl (V_pickF rfl rfl rfl) ?_
    refine L_v rfl rfl rfl (V_assign rfl rfl) ?_
    refine L_nil ?_
    change J _ _ _ _
    refine J_false rfl ?_
    refine J_seq ?_
    refine J_region ?_
    refine L_v rfl rfl rfl (V_move rfl rfl) ?_
    refine L_v rfl rfl rfl (V_len rfl rfl Try.underlying22 rfl) ?_
    refine L_v rfl rfl rfl (V_eql rfl rfl rfl (by first | exact decide_eq_true (by omega) | exact decide_eq_false (by omega) | rfl)) ?_
    refine L_v rfl rfl rfl (V_assign rfl rfl) ?_
    refine L_nil ?_
    change J _ _ _ _
    refine J_false rfl ?_
    refine J_skip ?_
    change J _ _ _ _
    refine J_seq ?_
    refine J_regionO (.pure 0 (.pure 2 (.two 1 (.one 3 (.one 4 (.pure 5 (.pure 6 (.nil))))) 3 (.one 1 (.one 4 (.pure 5 (.pure 6 (.nil)))))))) ([(b0, row 33 (vc v)), (b1, row 33 (vc (lastV l)))]) _ (Pk.refl _) (fun f hf => hf) rfl rfl (by kernel_rfl) ?_
    refine LO_v rfl rfl rfl rfl (V_move rfl rfl) ?_
    refine LO_v rfl rfl rfl rfl (V_loadW 0 rfl rfl rfl Try.underlying33 rfl (szd sz33x (by first | rfl | (simp [dg_length, zd_length, *]; done)))) ?_
    refine LO_two rfl rfl rfl rfl rfl (S_callO rfl rfl rfl rfl rfl tx33x (fun w hw => clone_w _ _ _ l w hl (SlC.later hw rfl hu) hn) (fun q1 hq1 => ⟨(Pk.app (Pk.refl _) _), fun f hf => hf, ?_⟩)) (S_buildSlice (vs := [(0, .agg (vc v).toArray)]) (l := vc v) rfl rfl rfl rfl (bsV _) (fun b2 => ⟨(Pk.app (Pk.refl _) _), fun f hf => hf, ?_⟩))
    ·
      refine LO_s rfl rfl rfl (S_buildSlice (vs := [(0, .agg (vc v).toArray)]) (l := vc v) rfl rfl rfl rfl (bsV _) (fun b2 => ⟨(Pk.app (Pk.app (Pk.refl _) _) _), fun f hf => hf, ?_⟩)) 
      refine LO_s rfl rfl rfl (S_appendN [(b0, row 33 (vc v)), (b1, row 33 (vc (lastV l)))] [(b2, row 33 (vc v))] q1 (vcs l) (m := 1) (news := vc v) rfl rfl rfl rfl Try.underlying22 elv (by first | rfl | exact congrArg (fun x => ([(b0, row 33 (vc v)), (b1, row 33 (vc (lastV l)))] ++ [(b2, row 33 (vc v))]) ++ x) (List.append_nil _).symm) hq1 (fun w hw => SlC.src Try.underlying22 (SlC.in hw (ks := vc v) (r := []) (fz := (0, 0)) (by first | exact List.mem_append_right _ (List.mem_singleton.2 rfl) | exact List.mem_append_left _ (List.mem_append_right _ (List.mem_singleton.2 rfl))) rfl 1) (vc_one _)) (by omega) (by omega) (fun q2 hq2 => ⟨(Pk.of_sub (List.Sublist.cons_cons _ (List.Sublist.cons_cons _ (List.nil_sublist _)))), fun f hf => hf, ?_⟩)) 
      refine LO_v rfl rfl rfl rfl (V_assign rfl rfl) ?_
      refine LO_v rfl rfl rfl rfl (V_assign rfl rfl) ?_
      refine LO_nil ?_
      change J _ _ _ _
      refine J_ret ?_
      change Kret _ _ _ Exit.ret _
      refine ret2 rfl rfl (RV_t rfl) (RV_t rfl) ?_
      have e9 : vcs (l ++ [v]) = vcs l ++ vc v := by rw [vcs_app, vcs_one]
      exact fun w' h => by rw [e9]; first | exact RetO.of (q := q2) (m1 := [(b0, row 33 (vc v)), (b1, row 33 (vc (lastV l)))]) (m2 := [(b2, row 33 (vc v))]) h rfl hq2 rfl rfl | exact RetO.of (q := q2) (m1 := [(b0, row 33 (vc v)), (b1, row 33 (vc (lastV l)))] ++ [(b2, row 33 (vc v))]) (m2 := []) h rfl hq2 rfl rfl
    ·
      refine LO_s rfl rfl rfl (S_callO rfl rfl rfl rfl rfl tx33x (fun w hw => clone_w _ _ _ l w hl (SlC.later hw rfl hu) hn) (fun q1 hq1 => ⟨(Pk.app (Pk.app (Pk.refl _) _) _), fun f hf => hf, ?_⟩)) 
      refine LO_s rfl rfl rfl (S_appendN ([(b0, row 33 (vc v)), (b1, row 33 (vc (lastV l)))] ++ [(b2, row 33 (vc v))]) [] q1 (vcs l) (m := 1) (news := vc v) rfl rfl rfl rfl Try.underlying22 elv (by first | rfl | exact congrArg (fun x => ([(b0, row 33 (vc v)), (b1, row 33 (vc (lastV l)))] ++ [(b2, row 33 (vc v))]) ++ x) (List.append_nil _).symm) hq1 (fun w hw => SlC.src Try.underlying22 (SlC.in hw (ks := vc v) (r := []) (fz := (0, 0)) (by first | exact List.mem_append_right _ (List.mem_singleton.2 rfl) | exact List.mem_append_left _ (List.mem_append_right _ (List.mem_singleton.2 rfl))) rfl 1) (vc_one _)) (by omega) (by omega) (fun q2 hq2 => ⟨(Pk.of_sub (List.Sublist.cons_cons _ (List.Sublist.cons_cons _ (List.nil_sublist _)))), fun f hf => hf, ?_⟩)) 
      refine LO_v rfl rfl rfl rfl (V_assign rfl rfl) ?_
      refine LO_v rfl rfl rfl rfl (V_assign rfl rfl) ?_
      refine LO_nil ?_
      change J _ _ _ _
      refine J_ret ?_
      change Kret _ _ _ Exit.ret _
      refine ret2 rfl rfl (RV_t rfl) (RV_t rfl) ?_
      have e9 : vcs (l ++ [v]) = vcs l ++ vc v := by rw [vcs_app, vcs_one]
      exact fun w' h => by rw [e9]; first | exact RetO.of (q := q2) (m1 := [(b0, row 33 (vc v)), (b1, row 33 (vc (lastV l)))]) (m2 := [(b2, row 33 (vc v))]) h rfl hq2 rfl rfl | exact RetO.of (q := q2) (m1 := [(b0, row 33 (vc v)), (b1, row 33 (vc (lastV l)))] ++ [(b2, row 33 (vc v))]) (m2 := []) h rfl hq2 rfl rfl

theorem next_no (a : Option Addr) (n c : Nat) (l : List Ver) (w : World) (hl : l.length = n) (hu : SlC 3 w (.slice a n c) n (vcs l)) (hn : n ≤ 1048576) (hcn : n ≤ c) (v : Ver) (h : nextE l v ≠ 0) :
    Calls Try.prog 16 #[.slice a n c, .agg (vc v).toArray] w fun e w' => e = .returned (.tuple #[.slice none 0 0, .int .i64 (nextE l v)]) ∧ Fr [] w w' := by
  refine calls_of (args := [.slice a n c, .agg (vc v).toArray]) ([]) ([]) ([]) Try.func16 rfl rfl (okW0 _ _ _ _) ?_
  refine J_seq ?_
  refine J_region ?_
  refine L_box rfl rfl rfl rfl rfl (fun b0 => ?_)
  refine L_v rfl rfl rfl (V_assign rfl rfl) ?_
  refine L_v rfl rfl rfl (V_assign rfl rfl) ?_
  refine L_nil ?_
  change J _ _ _ _
  refine J_seq ?_
  refine J_region ?_
  refine L_v rfl rfl rfl (V_move rfl rfl) ?_
  refine L_callV rfl rfl rfl rfl rfl rfl tx27x (fun w hw => last_w _ _ _ l w hl (SlC.later hw rfl hu) (by omega)) ?_
  refine L_alloc rfl rfl rfl rfl z33x (fun b1 => ?_)
  refine L_storeW 1 rfl rfl rfl rfl rfl rfl (szd sz33x (by first | rfl | (simp [dg_length, zd_length, *]; done))) (vc_one _) (by first | rfl | (simp [dg_length, zd_length, *]; done)) ?_
  refine L_nil ?_
  change J _ _ _ _
  refine J_seq ?_
  refine J_block ?_
  refine J_seq ?_
  refine J_region ?_
  refine L_v rfl rfl rfl (V_move rfl rfl) ?_
  refine L_callV rfl rfl rfl rfl rfl rfl tx10x (fun w hw => check_w _ _ _ l w hl (SlC.later hw rfl hu) hn hcn) ?_
  refine L_v rfl rfl rfl (V_neq rfl rfl rfl (by first | exact decide_eq_true (by omega) | exact decide_eq_false (by omega) | rfl)) ?_
  refine L_v rfl rfl rfl (V_move rfl rfl) ?_
  refine L_split 13 rfl (fun h1 => ?_) (fun h1 => ?_)
  ·
    first | (have h1 := h1; rw [decide_eq_true_eq] at h1) | (have h1 := h1; rw [decide_eq_false_iff_not] at h1) | skip
    refine L_skip rfl rfl rfl rfl rfl rfl rfl ?_
    refine L_skip rfl rfl rfl rfl rfl rfl rfl ?_
    refine L_skip rfl rfl rfl rfl rfl rfl rfl ?_
    first | refine L_v rfl rfl rfl (V_pickT rfl rfl rfl) ?_ | refine L_v rfl rfl rfl (V_pickF rfl rfl rfl) ?_
    refine L_v rfl rfl rfl (V_move rfl rfl) ?_
    refine L_skip rfl rfl rfl rfl rfl rfl rfl ?_
    refine L_skip rfl rfl rfl rfl rfl rfl rfl ?_
    refine L_skip rfl rfl rfl rfl rfl rfl rfl ?_
    refine L_skip rfl rfl rfl rfl rfl rfl rfl ?_
    refine L_skip rfl rfl rfl rfl rfl rfl rfl ?_
    first | refine L_v rfl rfl rfl (V_pickT rfl rfl rfl) ?_ | refine L_v rfl rfl rfl (V_pickF rfl rfl rfl) ?_
    refine L_v rfl rfl rfl (V_assign rfl rfl) ?_
    refine L_nil ?_
    change J _ _ _ _
    refine J_true rfl ?_
    refine J_seq ?_
    refine J_region ?_
    refine L_v rfl rfl rfl (V_assign rfl rfl) ?_
    refine L_v rfl rfl rfl (V_assign rfl rfl) ?_
    refine L_nil ?_
    change J _ _ _ _
    refine J_ret ?_
    change Kret _ _ _ Exit.ret _
    refine ret2 rfl rfl (RV_t rfl) (RV_t rfl) ?_
    have h9 := nextE_form (l := l) (v := v) (.inl (if50 h1))
    exact fun w' h => ⟨by rw [h9], h.fr⟩
  ·
    first | (have h1 := h1; rw [decide_eq_true_eq] at h1) | (have h1 := h1; rw [decide_eq_false_iff_not] at h1) | skip
    have hh := if0 h1
    refine L_wv rfl rfl rfl rfl rfl rfl (V_loadW 0 rfl rfl rfl Try.underlying33 rfl (szd sz33x (by first | rfl | (simp [dg_length, zd_length, *]; done)))) ?_
    refine L_wcallV rfl rfl rfl rfl rfl rfl rfl rfl rfl tx28x (fun w _ => may_w _ w) ?_
    refine L_wv rfl rfl rfl rfl rfl rfl (V_not rfl rfl rfl) ?_
    first | refine L_v rfl rfl rfl (V_pickT rfl rfl rfl) ?_ | refine L_v rfl rfl rfl (V_pickF rfl rfl rfl) ?_
    refine L_v rfl rfl rfl (V_move rfl rfl) ?_
    refine L_split 18 rfl (fun h2 => ?_) (fun h2 => ?_)
    ·
      first | (have h2 := h2; rw [decide_eq_true_eq] at h2) | (have h2 := h2; rw [decide_eq_false_iff_not] at h2) | skip
      refine L_skip rfl rfl rfl rfl rfl rfl rfl ?_
      refine L_skip rfl rfl rfl rfl rfl rfl rfl ?_
      refine L_skip rfl rfl rfl rfl rfl rfl rfl ?_
      refine L_skip rfl rfl rfl rfl rfl rfl rfl ?_
      refine L_skip rfl rfl rfl rfl rfl rfl rfl ?_
      first | refine L_v rfl rfl rfl (V_pickT rfl rfl rfl) ?_ | refine L_v rfl rfl rfl (V_pickF rfl rfl rfl) ?_
      refine L_v rfl rfl rfl (V_assign rfl rfl) ?_
      refine L_nil ?_
      change J _ _ _ _
      refine J_true rfl ?_
      refine J_seq ?_
      refine J_region ?_
      refine L_v rfl rfl rfl (V_assign rfl rfl) ?_
      refine L_v rfl rfl rfl (V_assign rfl rfl) ?_
      refine L_nil ?_
      change J _ _ _ _
      refine J_ret ?_
      change Kret _ _ _ Exit.ret _
      refine ret2 rfl rfl (RV_t rfl) (RV_t rfl) ?_
      have h9 := nextE_form (l := l) (v := v) (.inr (.inl (nbT h2)))
      exact fun w' h => ⟨by rw [h9], h.fr⟩
    ·
      first | (have h2 := h2; rw [decide_eq_true_eq] at h2) | (have h2 := h2; rw [decide_eq_false_iff_not] at h2) | skip
      have hm := nbF h2
      refine L_wv rfl rfl rfl rfl rfl rfl (V_fieldAddr rfl rfl Try.underlying33 rfl sz3x rfl) ?_
      refine L_wv rfl rfl rfl rfl rfl rfl (V_load1 0 rfl rfl rfl Try.underlying3 rfl (by first | rfl | simp)) ?_
      refine L_wv rfl rfl rfl rfl rfl rfl (V_fieldAddr rfl rfl Try.underlying33 rfl sz3x rfl) ?_
      refine L_wv rfl rfl rfl rfl rfl rfl (V_load1 1 rfl rfl rfl Try.underlying3 rfl (by first | rfl | simp)) ?_
      refine L_wv rfl rfl rfl rfl rfl rfl (V_lss rfl rfl rfl (by first | exact decide_eq_true (by omega) | exact decide_eq_false (by omega) | rfl)) ?_
      first | refine L_v rfl rfl rfl (V_pickT rfl rfl rfl) ?_ | refine L_v rfl rfl rfl (V_pickF rfl rfl rfl) ?_
      refine L_v rfl rfl rfl (V_assign rfl rfl) ?_
      refine L_nil ?_
      change J _ _ _ _
      refine J_cond rfl (fun h3 => ?_) (fun h3 => ?_)
      ·
        first | (have h3 := h3; rw [decide_eq_true_eq] at h3) | (have h3 := h3; rw [decide_eq_false_iff_not] at h3) | skip
        refine J_seq ?_
        refine J_region ?_
        refine L_v rfl rfl rfl (V_assign rfl rfl) ?_
        refine L_v rfl rfl rfl (V_assign rfl rfl) ?_
        refine L_nil ?_
        change J _ _ _ _
        refine J_ret ?_
        change Kret _ _ _ Exit.ret _
        refine ret2 rfl rfl (RV_t rfl) (RV_t rfl) ?_
        have h9 := nextE_form (l := l) (v := v) (.inr (.inr h3))
        exact fun w' h => ⟨by rw [h9], h.fr⟩
      ·
        first | (have h3 := h3; rw [decide_eq_true_eq] at h3) | (have h3 := h3; rw [decide_eq_false_iff_not] at h3) | skip
        have he := h3
        refine J_seq ?_
        refine J_region ?_
        refine L_v rfl rfl rfl (V_fieldAddr rfl rfl Try.underlying33 rfl sz31x rfl) ?_
        refine L_v rfl rfl rfl (V_load1 0 rfl rfl rfl Try.underlying31 rfl (by first | rfl | simp)) ?_
        refine L_v rfl rfl rfl (V_eql rfl rfl rfl (by first | exact decide_eq_true (by omega) | exact decide_eq_false (by omega) | rfl)) ?_
        refine L_v rfl rfl rfl (V_move rfl rfl) ?_
        refine L_split 29 rfl (fun h4 => ?_) (fun h4 => ?_)
        ·
          first | (have h4 := h4; rw [decide_eq_true_eq] at h4) | (have h4 := h4; rw [decide_eq_false_iff_not] at h4) | skip
          refine L_wv rfl rfl rfl rfl rfl rfl (V_loadW 1 rfl rfl rfl Try.underlying33 rfl (szd sz33x (by first | rfl | (simp [dg_length, zd_length, *]; done)))) ?_
          refine L_wcallV rfl rfl rfl rfl rfl rfl rfl rfl rfl tx29x (fun w _ => open_w _ w) ?_
          refine L_wv rfl rfl rfl rfl rfl rfl (V_not rfl rfl rfl) ?_
          first | refine L_v rfl rfl rfl (V_pickT rfl rfl rfl) ?_ | refine L_v rfl rfl rfl (V_pickF rfl rfl rfl) ?_
          refine L_v rfl rfl rfl (V_assign rfl rfl) ?_
          refine L_nil ?_
          change J _ _ _ _
          refine J_cond rfl (fun h5 => ?_) (fun h5 => ?_)
          ·
            first | (have h5 := h5; rw [decide_eq_true_eq] at h5) | (have h5 := h5; rw [decide_eq_false_iff_not] at h5) | skip
            refine J_seq ?_
            refine J_region ?_
            refine L_v rfl rfl rfl (V_assign rfl rfl) ?_
            refine L_v rfl rfl rfl (V_assign rfl rfl) ?_
            refine L_nil ?_
            change J _ _ _ _
            refine J_ret ?_
            change Kret _ _ _ Exit.ret _
            refine ret2 rfl rfl (RV_t rfl) (RV_t rfl) ?_
            have h9 := nextE_there hh hm he h4 (nbT h5)
            exact fun w' h => ⟨by rw [h9], h.fr⟩
          ·
            first | (have h5 := h5; rw [decide_eq_true_eq] at h5) | (have h5 := h5; rw [decide_eq_false_iff_not] at h5) | skip
            refine J_seq ?_
            refine J_region ?_
            refine L_v rfl rfl rfl (V_fieldAddr rfl rfl Try.underlying33 rfl sz31x rfl) ?_
            refine L_v rfl rfl rfl (V_load1 0 rfl rfl rfl Try.underlying31 rfl (by first | rfl | simp)) ?_
            refine L_v rfl rfl rfl (V_neq rfl rfl rfl (by first | exact decide_eq_true (by omega) | exact decide_eq_false (by omega) | rfl)) ?_
            refine L_v rfl rfl rfl (V_move rfl rfl) ?_
            refine L_skip rfl rfl rfl rfl rfl rfl rfl ?_
            refine L_skip rfl rfl rfl rfl rfl rfl rfl ?_
            first | refine L_v rfl rfl rfl (V_pickT rfl rfl rfl) ?_ | refine L_v rfl rfl rfl (V_pickF rfl rfl rfl) ?_
            refine L_v rfl rfl rfl (V_assign rfl rfl) ?_
            refine L_nil ?_
            change J _ _ _ _
            refine J_false rfl ?_
            refine J_seq ?_
            refine J_region ?_
            refine L_v rfl rfl rfl (V_move rfl rfl) ?_
            refine L_v rfl rfl rfl (V_len rfl rfl Try.underlying22 rfl) ?_
            refine L_v rfl rfl rfl (V_eql rfl rfl rfl (by first | exact decide_eq_true (by omega) | exact decide_eq_false (by omega) | rfl)) ?_
            refine L_v rfl rfl rfl (V_assign rfl rfl) ?_
            refine L_nil ?_
            change J _ _ _ _
            refine J_cond rfl (fun h6 => ?_) (fun h6 => ?_)
            ·
              first | (have h6 := h6; rw [decide_eq_true_eq] at h6) | (have h6 := h6; rw [decide_eq_false_iff_not] at h6) | skip
              refine J_seq ?_
              refine J_region ?_
              refine L_v rfl rfl rfl (V_assign rfl rfl) ?_
              refine L_v rfl rfl rfl (V_assign rfl rfl) ?_
              refine L_nil ?_
              change J _ _ _ _
              refine J_ret ?_
              change Kret _ _ _ Exit.ret _
              refine ret2 rfl rfl (RV_t rfl) (RV_t rfl) ?_
              have h9 := nextE_lim hh hm he (by rw [nbF h5, decide_eq_true h4])
              rw [if_pos (by omega)] at h9
              exact fun w' h => ⟨by rw [h9], h.fr⟩
            ·
              first | (have h6 := h6; rw [decide_eq_true_eq] at h6) | (have h6 := h6; rw [decide_eq_false_iff_not] at h6) | skip
              have h9 := nextE_lim hh hm he (by rw [nbF h5, decide_eq_true h4])
              rw [if_neg (by omega)] at h9
              exact absurd h9 h
        ·
          first | (have h4 := h4; rw [decide_eq_true_eq] at h4) | (have h4 := h4; rw [decide_eq_false_iff_not] at h4) | skip
          refine L_skip rfl rfl rfl rfl rfl rfl rfl ?_
          refine L_skip rfl rfl rfl rfl rfl rfl rfl ?_
          refine L_skip rfl rfl rfl rfl rfl rfl rfl ?_
          first | refine L_v rfl rfl rfl (V_pickT rfl rfl rfl) ?_ | refine L_v rfl rfl rfl (V_pickF rfl rfl rfl) ?_
          refine L_v rfl rfl rfl (V_assign rfl rfl) ?_
          refine L_nil ?_
          change J _ _ _ _
          refine J_false rfl ?_
          refine J_seq ?_
          refine J_region ?_
          refine L_v rfl rfl rfl (V_fieldAddr rfl rfl Try.underlying33 rfl sz31x rfl) ?_
          refine L_v rfl rfl rfl (V_load1 0 rfl rfl rfl Try.underlying31 rfl (by first | rfl | simp)) ?_
          refine L_v rfl rfl rfl (V_neq rfl rfl rfl (by first | exact decide_eq_true (by omega) | exact decide_eq_false (by omega) | rfl)) ?_
          refine L_v rfl rfl rfl (V_move rfl rfl) ?_
          refine L_wv rfl rfl rfl rfl rfl rfl (V_loadW 1 rfl rfl rfl Try.underlying33 rfl (szd sz33x (by first | rfl | (simp [dg_length, zd_length, *]; done)))) ?_
          refine L_wcallV rfl rfl rfl rfl rfl rfl rfl rfl rfl tx29x (fun w _ => open_w _ w) ?_
          first | refine L_v rfl rfl rfl (V_pickT rfl rfl rfl) ?_ | refine L_v rfl rfl rfl (V_pickF rfl rfl rfl) ?_
          refine L_v rfl rfl rfl (V_assign rfl rfl) ?_
          refine L_nil ?_
          change J _ _ _ _
          refine J_cond rfl (fun h5 => ?_) (fun h5 => ?_)
          ·
            first | (have h5 := h5; rw [decide_eq_true_eq] at h5) | (have h5 := h5; rw [decide_eq_false_iff_not] at h5) | skip
            refine J_seq ?_
            refine J_region ?_
            refine L_v rfl rfl rfl (V_assign rfl rfl) ?_
            refine L_v rfl rfl rfl (V_assign rfl rfl) ?_
            refine L_nil ?_
            change J _ _ _ _
            refine J_ret ?_
            change Kret _ _ _ Exit.ret _
            refine ret2 rfl rfl (RV_t rfl) (RV_t rfl) ?_
            have h9 := nextE_none hh hm he h4 h5
            exact fun w' h => ⟨by rw [h9], h.fr⟩
          ·
            first | (have h5 := h5; rw [decide_eq_true_eq] at h5) | (have h5 := h5; rw [decide_eq_false_iff_not] at h5) | skip
            refine J_seq ?_
            refine J_region ?_
            refine L_v rfl rfl rfl (V_move rfl rfl) ?_
            refine L_v rfl rfl rfl (V_len rfl rfl Try.underlying22 rfl) ?_
            refine L_v rfl rfl rfl (V_eql rfl rfl rfl (by first | exact decide_eq_true (by omega) | exact decide_eq_false (by omega) | rfl)) ?_
            refine L_v rfl rfl rfl (V_assign rfl rfl) ?_
            refine L_nil ?_
            change J _ _ _ _
            refine J_cond rfl (fun h6 => ?_) (fun h6 => ?_)
            ·
              first | (have h6 := h6; rw [decide_eq_true_eq] at h6) | (have h6 := h6; rw [decide_eq_false_iff_not] at h6) | skip
              refine J_seq ?_
              refine J_region ?_
              refine L_v rfl rfl rfl (V_assign rfl rfl) ?_
              refine L_v rfl rfl rfl (V_assign rfl rfl) ?_
              refine L_nil ?_
              change J _ _ _ _
              refine J_ret ?_
              change Kret _ _ _ Exit.ret _
              refine ret2 rfl rfl (RV_t rfl) (RV_t rfl) ?_
              have h9 := nextE_lim hh hm he (by rw [h5, decide_eq_false h4])
              rw [if_pos (by omega)] at h9
              exact fun w' h => ⟨by rw [h9], h.fr⟩
            ·
              first | (have h6 := h6; rw [decide_eq_true_eq] at h6) | (have h6 := h6; rw [decide_eq_false_iff_not] at h6) | skip
              have h9 := nextE_lim hh hm he (by rw [h5, decide_eq_false h4])
              rw [if_neg (by omega)] at h9
              exact absurd h9 h

theorem rnext_ok (a : Option Addr) (n c : Nat) (l : List Ver) (w : World) (hl : l.length = n) (hu : SlC 3 w (.slice a n c) n (vcs l)) (hn : n ≤ 1048576) (v : Ver) (h : nextE l v = 0) :
    Calls Try.prog 17 #[.slice a n c, .agg (vc v).toArray] w fun e w' => RetO 33 3 w (vcs (l ++ [v])) (n + 1) (fun s => .tuple #[s, .int .i64 0]) e w' := by
  obtain ⟨g1, g2, g3, g4, g5⟩ := nextE_ok h
  have hac : (actV l).2 = !decide (v.2.1 = 1) := by rw [actV_2 g1, g4]
  refine calls_of (args := [.slice a n c, .agg (vc v).toArray]) ([]) ([]) ([]) Try.func17 rfl rfl (okW0 _ _ _ _) ?_
  refine J_seq ?_
  refine J_region ?_
  refine L_box rfl rfl rfl rfl rfl (fun b0 => ?_)
  refine L_v rfl rfl rfl (V_assign rfl rfl) ?_
  refine L_v rfl rfl rfl (V_assign rfl rfl) ?_
  refine L_nil ?_
  change J _ _ _ _
  refine J_seq ?_
  refine J_region ?_
  refine L_v rfl rfl rfl (V_move rfl rfl) ?_
  refine L_callV rfl rfl rfl rfl rfl rfl tx12x (fun w hw => ractive_w _ _ _ l w hl (SlC.later hw rfl hu) hn) ?_
  refine L_v rfl rfl rfl (V_move rfl rfl) ?_
  refine L_v rfl rfl rfl (V_extract rfl rfl rfl) ?_
  refine L_v rfl rfl rfl (V_extract rfl rfl rfl) ?_
  refine L_v rfl rfl rfl (V_assign rfl rfl) ?_
  refine L_v rfl rfl rfl (V_assign rfl rfl) ?_
  refine L_nil ?_
  change J _ _ _ _
  refine J_seq ?_
  refine J_block ?_
  refine J_seq ?_
  refine J_regionQ rfl (by kernel_rfl) ?_
  refine LQ_v rfl rfl rfl (V_move rfl rfl) ?_
  refine LQ_callV rfl rfl rfl rfl rfl rfl tx14x (fun w hw => ish_b _ _ _ l w hl (SlC.later hw rfl hu) hn g1) ?_
  refine LQ_v rfl rfl rfl (V_not rfl rfl rfl) ?_
  refine LQ_v rfl rfl rfl (V_move rfl rfl) ?_
  refine LQ_wv rfl rfl rfl rfl rfl rfl (V_loadW 0 rfl rfl rfl Try.underlying33 rfl (szd sz33x (by first | rfl | (simp [dg_length, zd_length, *]; done)))) ?_
  refine LQ_wcallV rfl rfl rfl rfl rfl rfl rfl rfl rfl tx31x (fun w _ => rmay_b g2 w) ?_
  refine LQ_wv rfl rfl rfl rfl rfl rfl (V_not rfl rfl rfl) ?_
  first | refine LQ_v rfl rfl rfl (V_pickT rfl rfl rfl) ?_ | refine LQ_v rfl rfl rfl (V_pickF rfl rfl rfl) ?_
  refine LQ_v rfl rfl rfl (V_move rfl rfl) ?_
  refine LQ_wv rfl rfl rfl rfl rfl rfl (V_move rfl rfl) ?_
  refine LQ_wv rfl rfl rfl rfl rfl rfl (V_len rfl rfl Try.underlying22 rfl) ?_
  refine LQ_wv rfl rfl rfl rfl rfl rfl (V_gtr rfl rfl rfl (by first | exact decide_eq_true (by omega) | exact decide_eq_false (by omega) | rfl)) ?_
  refine LQ_wv rfl rfl rfl rfl rfl rfl (V_move rfl rfl) ?_
  refine LQ_split 27 rfl (fun h1 => ?_) (fun h1 => ?_)
  ·
    first | (have h1 := h1; rw [decide_eq_true_eq] at h1) | (have h1 := h1; rw [decide_eq_false_iff_not] at h1) | skip
    have g3' : (l.getD (n - 1) v0).1 ≤ v.1 := by
      have : lastV l = l.getD (n - 1) v0 := by unfold lastV; rw [hl]
      rw [← this]; exact g3
    refine LQ_wv rfl rfl rfl rfl rfl rfl (V_fieldAddr rfl rfl Try.underlying33 rfl sz3x rfl) ?_
    refine LQ_wv rfl rfl rfl rfl rfl rfl (V_load1 0 rfl rfl rfl Try.underlying3 rfl (by first | rfl | simp)) ?_
    refine LQ_wv rfl rfl rfl rfl rfl rfl (V_move rfl rfl) ?_
    refine LQ_wv rfl rfl rfl rfl rfl rfl (V_move rfl rfl) ?_
    refine LQ_wv rfl rfl rfl rfl rfl rfl (V_len rfl rfl Try.underlying22 rfl) ?_
    refine LQ_wv rfl rfl rfl rfl rfl rfl (V_sub rfl rfl rfl (by first | exact Go.IntWalk.i64_in _ (by omega) | rfl)) ?_
    refine LQ_wv rfl rfl rfl rfl rfl rfl (V_indexC rfl rfl rfl Try.underlying22 sz33x (fun w hw => SlC.later hw rfl hu) (by omega) (by omega)) ?_
    refine LQ_wv rfl rfl rfl rfl rfl rfl (V_fieldC rfl rfl (fun w hw => (let ⟨b, o, e, _⟩ := SlC.cell (SlC.later hw rfl hu) (show (vcs l)[((n : Int) - 1).toNat * (2 + 1)]? = some (.int .i64 (l.getD (n - 1) v0).1) from (by rw [show ((n : Int) - 1).toNat = ((n - 1 : Nat) : Int).toNat by omega]; exact vcs_e (by omega))); ⟨b, o, e⟩)) Try.underlying33 rfl sz3x rfl) ?_
    refine LQ_wv rfl rfl rfl rfl rfl rfl (V_loadC rfl rfl Try.underlying3 rfl (fun w hw => SlC.later hw rfl hu) (by rw [show ((n : Int) - 1).toNat = ((n - 1 : Nat) : Int).toNat by omega]; exact vcs_e (by omega))) ?_
    refine LQ_wv rfl rfl rfl rfl rfl rfl (V_lss rfl rfl rfl (by first | exact decide_eq_true (by omega) | exact decide_eq_false (by omega) | rfl)) ?_
    first | refine LQ_wv rfl rfl rfl rfl rfl rfl (V_pickT rfl rfl rfl) ?_ | refine LQ_wv rfl rfl rfl rfl rfl rfl (V_pickF rfl rfl rfl) ?_
    first | refine LQ_v rfl rfl rfl (V_pickT rfl rfl rfl) ?_ | refine LQ_v rfl rfl rfl (V_pickF rfl rfl rfl) ?_
    refine LQ_v rfl rfl rfl (V_assign rfl rfl) ?_
    refine LQ_nil ?_
    change J _ _ _ _
    refine J_false rfl ?_
    refine J_seq ?_
    refine J_region ?_
    refine L_v rfl rfl rfl (V_fieldAddr rfl rfl Try.underlying33 rfl sz31x rfl) ?_
    refine L_v rfl rfl rfl (V_load1 0 rfl rfl rfl Try.underlying31 rfl (by first | rfl | simp)) ?_
    refine L_v rfl rfl rfl (V_eql rfl rfl rfl (by first | exact decide_eq_true (by omega) | exact decide_eq_false (by omega) | rfl)) ?_
    refine L_v rfl rfl rfl (V_move rfl rfl) ?_
    refine L_split 44 rfl (fun h2 => ?_) (fun h2 => ?_)
    ·
      first | (have h2 := h2; rw [decide_eq_true_eq] at h2) | (have h2 := h2; rw [decide_eq_false_iff_not] at h2) | skip
      refine L_wv rfl rfl rfl rfl rfl rfl (V_move rfl rfl) ?_
      first | refine L_v rfl rfl rfl (V_pickT rfl rfl rfl) ?_ | refine L_v rfl rfl rfl (V_pickF rfl rfl rfl) ?_
      refine L_v rfl rfl rfl (V_assign rfl rfl) ?_
      refine L_nil ?_
      change J _ _ _ _
      refine J_cond rfl (fun h3 => ?_) (fun h3 => ?_)
      ·
        first | (have h3 := h3; rw [decide_eq_true_eq] at h3) | (have h3 := h3; rw [decide_eq_false_iff_not] at h3) | skip
        rw [hac, decide_eq_true h2] at h3; cases h3
      ·
        first | (have h3 := h3; rw [decide_eq_true_eq] at h3) | (have h3 := h3; rw [decide_eq_false_iff_not] at h3) | skip
        refine J_seq ?_
        refine J_region ?_
        refine L_v rfl rfl rfl (V_fieldAddr rfl rfl Try.underlying33 rfl sz31x rfl) ?_
        refine L_v rfl rfl rfl (V_load1 0 rfl rfl rfl Try.underlying31 rfl (by first | rfl | simp)) ?_
        refine L_v rfl rfl rfl (V_neq rfl rfl rfl (by first | exact decide_eq_true (by omega) | exact decide_eq_false (by omega) | rfl)) ?_
        refine L_v rfl rfl rfl (V_move rfl rfl) ?_
        refine L_skip rfl rfl rfl rfl rfl rfl rfl ?_
        refine L_skip rfl rfl rfl rfl rfl rfl rfl ?_
        first | refine L_v rfl rfl rfl (V_pickT rfl rfl rfl) ?_ | refine L_v rfl rfl rfl (V_pickF rfl rfl rfl) ?_
        refine L_v rfl rfl rfl (V_assign rfl rfl) ?_
        refine L_nil ?_
        change J _ _ _ _
        refine J_false rfl ?_
        refine J_seq ?_
        refine J_region ?_
        refine L_v rfl rfl rfl (V_move rfl rfl) ?_
        refine L_v rfl rfl rfl (V_len rfl rfl Try.underlying22 rfl) ?_
        refine L_v rfl rfl rfl (V_geq rfl rfl rfl (by first | exact decide_eq_true (by omega) | exact decide_eq_false (by omega) | rfl)) ?_
        refine L_v rfl rfl rfl (V_assign rfl rfl) ?_
        refine L_nil ?_
        change J _ _ _ _
        refine J_false rfl ?_
        refine J_skip ?_
        change J _ _ _ _
        refine J_seq ?_
        refine J_region ?_
        refine L_v rfl rfl rfl (V_assign rfl rfl) ?_
        refine L_nil ?_
        change J _ _ _ _
        refine J_seq ?_
        refine J_region ?_
        refine L_v rfl rfl rfl (V_move rfl rfl) ?_
        refine L_v rfl rfl rfl (V_move rfl rfl) ?_
        refine L_appL [(b0, row 33 (vc v))] none [] (n' := n) (ks' := vcs l) rfl rfl rfl rfl rfl Try.underlying22 elv rfl ⟨rfl, rfl⟩ (fun w hw => SlC.src Try.underlying22 (SlC.later hw rfl hu) (vcs_1 l)) (Nat.zero_add n) (List.nil_append _) (by omega) (by omega) (fun q1 hq1 => ?_)
        refine L_v rfl rfl rfl (V_assign rfl rfl) ?_
        refine L_nil ?_
        change J _ _ _ _
        refine J_seq ?_
        refine J_region ?_
        refine L_v rfl rfl rfl (V_move rfl rfl) ?_
        refine L_v rfl rfl rfl (V_loadW 0 rfl rfl rfl Try.underlying33 rfl (szd sz33x (by first | rfl | (simp [dg_length, zd_length, *]; done)))) ?_
        refine L_buildSlice (vs := [(0, .agg (vc v).toArray)]) (l := vc v) rfl rfl rfl rfl rfl (bsV _) (fun b1 => ?_)
        refine L_appN [(b0, row 33 (vc v))] [(b1, row 33 (vc v))] q1 (vcs l) (n := n) (m := 1) (n' := n + 1) (ks' := vcs (l ++ [v])) rfl rfl rfl rfl rfl Try.underlying22 elv rfl hq1 (fun w hw => SlC.src Try.underlying22 (SlC.in hw (ks := vc v) (r := []) (fz := (0, 0)) (by first | exact List.mem_append_right _ (List.mem_singleton.2 rfl) | exact List.mem_append_left _ (List.mem_append_right _ (List.mem_singleton.2 rfl))) rfl 1) (vc_one _)) rfl (by rw [vcs_app, vcs_one]) (by omega) (by omega) (fun q2 hq2 => ?_)
        refine L_v rfl rfl rfl (V_assign rfl rfl) ?_
        refine L_nil ?_
        change J _ _ _ _
        refine J_seq ?_
        refine J_region ?_
        refine L_v rfl rfl rfl (V_move rfl rfl) ?_
        refine L_v rfl rfl rfl (V_assign rfl rfl) ?_
        refine L_v rfl rfl rfl (V_assign rfl rfl) ?_
        refine L_nil ?_
        change J _ _ _ _
        refine J_ret ?_
        change Kret _ _ _ Exit.ret _
        refine ret2 rfl rfl (RV_t rfl) (RV_t rfl) ?_
        exact fun w' h => RetO.of (q := q2) (m1 := [(b0, row 33 (vc v))]) (m2 := [(b1, row 33 (vc v))]) h rfl hq2 rfl rfl
    ·
      first | (have h2 := h2; rw [decide_eq_true_eq] at h2) | (have h2 := h2; rw [decide_eq_false_iff_not] at h2) | skip
      refine L_skip rfl rfl rfl rfl rfl rfl rfl ?_
      first | refine L_v rfl rfl rfl (V_pickT rfl rfl rfl) ?_ | refine L_v rfl rfl rfl (V_pickF rfl rfl rfl) ?_
      refine L_v rfl rfl rfl (V_assign rfl rfl) ?_
      refine L_nil ?_
      change J _ _ _ _
      refine J_false rfl ?_
      refine J_seq ?_
      refine J_region ?_
      refine L_v rfl rfl rfl (V_fieldAddr rfl rfl Try.underlying33 rfl sz31x rfl) ?_
      refine L_v rfl rfl rfl (V_load1 0 rfl rfl rfl Try.underlying31 rfl (by first | rfl | simp)) ?_
      refine L_v rfl rfl rfl (V_neq rfl rfl rfl (by first | exact decide_eq_true (by omega) | exact decide_eq_false (by omega) | rfl)) ?_
      refine L_v rfl rfl rfl (V_move rfl rfl) ?_
      refine L_wv rfl rfl rfl rfl rfl rfl (V_move rfl rfl) ?_
      refine L_wv rfl rfl rfl rfl rfl rfl (V_not rfl rfl rfl) ?_
      first | refine L_v rfl rfl rfl (V_pickT rfl rfl rfl) ?_ | refine L_v rfl rfl rfl (V_pickF rfl rfl rfl) ?_
      refine L_v rfl rfl rfl (V_assign rfl rfl) ?_
      refine L_nil ?_
      change J _ _ _ _
      refine J_cond rfl (fun h3 => ?_) (fun h3 => ?_)
      ·
        first | (have h3 := h3; rw [decide_eq_true_eq] at h3) | (have h3 := h3; rw [decide_eq_false_iff_not] at h3) | skip
        rw [hac, decide_eq_false h2] at h3; cases h3
      ·
        first | (have h3 := h3; rw [decide_eq_true_eq] at h3) | (have h3 := h3; rw [decide_eq_false_iff_not] at h3) | skip
        refine J_seq ?_
        refine J_region ?_
        refine L_v rfl rfl rfl (V_move rfl rfl) ?_
        refine L_v rfl rfl rfl (V_len rfl rfl Try.underlying22 rfl) ?_
        refine L_v rfl rfl rfl (V_geq rfl rfl rfl (by first | exact decide_eq_true (by omega) | exact decide_eq_false (by omega) | rfl)) ?_
        refine L_v rfl rfl rfl (V_assign rfl rfl) ?_
        refine L_nil ?_
        change J _ _ _ _
        refine J_false rfl ?_
        refine J_skip ?_
        change J _ _ _ _
        refine J_seq ?_
        refine J_region ?_
        refine L_v rfl rfl rfl (V_assign rfl rfl) ?_
        refine L_nil ?_
        change J _ _ _ _
        refine J_seq ?_
        refine J_region ?_
        refine L_v rfl rfl rfl (V_move rfl rfl) ?_
        refine L_v rfl rfl rfl (V_move rfl rfl) ?_
        refine L_appL [(b0, row 33 (vc v))] none [] (n' := n) (ks' := vcs l) rfl rfl rfl rfl rfl Try.underlying22 elv rfl ⟨rfl, rfl⟩ (fun w hw => SlC.src Try.underlying22 (SlC.later hw rfl hu) (vcs_1 l)) (Nat.zero_add n) (List.nil_append _) (by omega) (by omega) (fun q1 hq1 => ?_)
        refine L_v rfl rfl rfl (V_assign rfl rfl) ?_
        refine L_nil ?_
        change J _ _ _ _
        refine J_seq ?_
        refine J_region ?_
        refine L_v rfl rfl rfl (V_move rfl rfl) ?_
        refine L_v rfl rfl rfl (V_loadW 0 rfl rfl rfl Try.underlying33 rfl (szd sz33x (by first | rfl | (simp [dg_length, zd_length, *]; done)))) ?_
        refine L_buildSlice (vs := [(0, .agg (vc v).toArray)]) (l := vc v) rfl rfl rfl rfl rfl (bsV _) (fun b1 => ?_)
        refine L_appN [(b0, row 33 (vc v))] [(b1, row 33 (vc v))] q1 (vcs l) (n := n) (m := 1) (n' := n + 1) (ks' := vcs (l ++ [v])) rfl rfl rfl rfl rfl Try.underlying22 elv rfl hq1 (fun w hw => SlC.src Try.underlying22 (SlC.in hw (ks := vc v) (r := []) (fz := (0, 0)) (by first | exact List.mem_append_right _ (List.mem_singleton.2 rfl) | exact List.mem_append_left _ (List.mem_append_right _ (List.mem_singleton.2 rfl))) rfl 1) (vc_one _)) rfl (by rw [vcs_app, vcs_one]) (by omega) (by omega) (fun q2 hq2 => ?_)
        refine L_v rfl rfl rfl (V_assign rfl rfl) ?_
        refine L_nil ?_
        change J _ _ _ _
        refine J_seq ?_
        refine J_region ?_
        refine L_v rfl rfl rfl (V_move rfl rfl) ?_
        refine L_v rfl rfl rfl (V_assign rfl rfl) ?_
        refine L_v rfl rfl rfl (V_assign rfl rfl) ?_
        refine L_nil ?_
        change J _ _ _ _
        refine J_ret ?_
        change Kret _ _ _ Exit.ret _
        refine ret2 rfl rfl (RV_t rfl) (RV_t rfl) ?_
        exact fun w' h => RetO.of (q := q2) (m1 := [(b0, row 33 (vc v))]) (m2 := [(b1, row 33 (vc v))]) h rfl hq2 rfl rfl
  ·
    first | (have h1 := h1; rw [decide_eq_true_eq] at h1) | (have h1 := h1; rw [decide_eq_false_iff_not] at h1) | skip
    refine LQ_skip rfl rfl rfl rfl rfl rfl rfl ?_
    refine LQ_skip rfl rfl rfl rfl rfl rfl rfl ?_
    refine LQ_skip rfl rfl rfl rfl rfl rfl rfl ?_
    refine LQ_skip rfl rfl rfl rfl rfl rfl rfl ?_
    refine LQ_skip rfl rfl rfl rfl rfl rfl rfl ?_
    refine LQ_skip rfl rfl rfl rfl rfl rfl rfl ?_
    refine LQ_skip rfl rfl rfl rfl rfl rfl rfl ?_
    refine LQ_skip rfl rfl rfl rfl rfl rfl rfl ?_
    refine LQ_skip rfl rfl rfl rfl rfl rfl rfl ?_
    refine LQ_skip rfl rfl rfl rfl rfl rfl rfl ?_
    first | refine LQ_wv rfl rfl rfl rfl rfl rfl (V_pickT rfl rfl rfl) ?_ | refine LQ_wv rfl rfl rfl rfl rfl rfl (V_pickF rfl rfl rfl) ?_
    first | refine LQ_v rfl rfl rfl (V_pickT rfl rfl rfl) ?_ | refine LQ_v rfl rfl rfl (V_pickF rfl rfl rfl) ?_
    refine LQ_v rfl rfl rfl (V_assign rfl rfl) ?_
    refine LQ_nil ?_
    change J _ _ _ _
    refine J_false rfl ?_
    refine J_seq ?_
    refine J_region ?_
    refine L_v rfl rfl rfl (V_fieldAddr rfl rfl Try.underlying33 rfl sz31x rfl) ?_
    refine L_v rfl rfl rfl (V_load1 0 rfl rfl rfl Try.underlying31 rfl (by first | rfl | simp)) ?_
    refine L_v rfl rfl rfl (V_eql rfl rfl rfl (by first | exact decide_eq_true (by omega) | exact decide_eq_false (by omega) | rfl)) ?_
    refine L_v rfl rfl rfl (V_move rfl rfl) ?_
    refine L_split 44 rfl (fun h2 => ?_) (fun h2 => ?_)
    ·
      first | (have h2 := h2; rw [decide_eq_true_eq] at h2) | (have h2 := h2; rw [decide_eq_false_iff_not] at h2) | skip
      refine L_wv rfl rfl rfl rfl rfl rfl (V_move rfl rfl) ?_
      first | refine L_v rfl rfl rfl (V_pickT rfl rfl rfl) ?_ | refine L_v rfl rfl rfl (V_pickF rfl rfl rfl) ?_
      refine L_v rfl rfl rfl (V_assign rfl rfl) ?_
      refine L_nil ?_
      change J _ _ _ _
      refine J_cond rfl (fun h3 => ?_) (fun h3 => ?_)
      ·
        first | (have h3 := h3; rw [decide_eq_true_eq] at h3) | (have h3 := h3; rw [decide_eq_false_iff_not] at h3) | skip
        rw [hac, decide_eq_true h2] at h3; cases h3
      ·
        first | (have h3 := h3; rw [decide_eq_true_eq] at h3) | (have h3 := h3; rw [decide_eq_false_iff_not] at h3) | skip
        refine J_seq ?_
        refine J_region ?_
        refine L_v rfl rfl rfl (V_fieldAddr rfl rfl Try.underlying33 rfl sz31x rfl) ?_
        refine L_v rfl rfl rfl (V_load1 0 rfl rfl rfl Try.underlying31 rfl (by first | rfl | simp)) ?_
        refine L_v rfl rfl rfl (V_neq rfl rfl rfl (by first | exact decide_eq_true (by omega) | exact decide_eq_false (by omega) | rfl)) ?_
        refine L_v rfl rfl rfl (V_move rfl rfl) ?_
        refine L_skip rfl rfl rfl rfl rfl rfl rfl ?_
        refine L_skip rfl rfl rfl rfl rfl rfl rfl ?_
        first | refine L_v rfl rfl rfl (V_pickT rfl rfl rfl) ?_ | refine L_v rfl rfl rfl (V_pickF rfl rfl rfl) ?_
        refine L_v rfl rfl rfl (V_assign rfl rfl) ?_
        refine L_nil ?_
        change J _ _ _ _
        refine J_false rfl ?_
        refine J_seq ?_
        refine J_region ?_
        refine L_v rfl rfl rfl (V_move rfl rfl) ?_
        refine L_v rfl rfl rfl (V_len rfl rfl Try.underlying22 rfl) ?_
        refine L_v rfl rfl rfl (V_geq rfl rfl rfl (by first | exact decide_eq_true (by omega) | exact decide_eq_false (by omega) | rfl)) ?_
        refine L_v rfl rfl rfl (V_assign rfl rfl) ?_
        refine L_nil ?_
        change J _ _ _ _
        refine J_false rfl ?_
        refine J_skip ?_
        change J _ _ _ _
        refine J_seq ?_
        refine J_region ?_
        refine L_v rfl rfl rfl (V_assign rfl rfl) ?_
        refine L_nil ?_
        change J _ _ _ _
        refine J_seq ?_
        refine J_region ?_
        refine L_v rfl rfl rfl (V_move rfl rfl) ?_
        refine L_v rfl rfl rfl (V_move rfl rfl) ?_
        refine L_appL [(b0, row 33 (vc v))] none [] (n' := n) (ks' := vcs l) rfl rfl rfl rfl rfl Try.underlying22 elv rfl ⟨rfl, rfl⟩ (fun w hw => SlC.src Try.underlying22 (SlC.later hw rfl hu) (vcs_1 l)) (Nat.zero_add n) (List.nil_append _) (by omega) (by omega) (fun q1 hq1 => ?_)
        refine L_v rfl rfl rfl (V_assign rfl rfl) ?_
        refine L_nil ?_
        change J _ _ _ _
        refine J_seq ?_
        refine J_region ?_
        refine L_v rfl rfl rfl (V_move rfl rfl) ?_
        refine L_v rfl rfl rfl (V_loadW 0 rfl rfl rfl Try.underlying33 rfl (szd sz33x (by first | rfl | (simp [dg_length, zd_length, *]; done)))) ?_
        refine L_buildSlice (vs := [(0, .agg (vc v).toArray)]) (l := vc v) rfl rfl rfl rfl rfl (bsV _) (fun b1 => ?_)
        refine L_appN [(b0, row 33 (vc v))] [(b1, row 33 (vc v))] q1 (vcs l) (n := n) (m := 1) (n' := n + 1) (ks' := vcs (l ++ [v])) rfl rfl rfl rfl rfl Try.underlying22 elv rfl hq1 (fun w hw => SlC.src Try.underlying22 (SlC.in hw (ks := vc v) (r := []) (fz := (0, 0)) (by first | exact List.mem_append_right _ (List.mem_singleton.2 rfl) | exact List.mem_append_left _ (List.mem_append_right _ (List.mem_singleton.2 rfl))) rfl 1) (vc_one _)) rfl (by rw [vcs_app, vcs_one]) (by omega) (by omega) (fun q2 hq2 => ?_)
        refine L_v rfl rfl rfl (V_assign rfl rfl) ?_
        refine L_nil ?_
        change J _ _ _ _
        refine J_seq ?_
        refine J_region ?_
        refine L_v rfl rfl rfl (V_move rfl rfl) ?_
        refine L_v rfl rfl rfl (V_assign rfl rfl) ?_
        refine L_v rfl rfl rfl (V_assign rfl rfl) ?_
        refine L_nil ?_
        change J _ _ _ _
        refine J_ret ?_
        change Kret _ _ _ Exit.ret _
        refine ret2 rfl rfl (RV_t rfl) (RV_t rfl) ?_
        exact fun w' h => RetO.of (q := q2) (m1 := [(b0, row 33 (vc v))]) (m2 := [(b1, row 33 (vc v))]) h rfl hq2 rfl rfl
    ·
      first | (have h2 := h2; rw [decide_eq_true_eq] at h2) | (have h2 := h2; rw [decide_eq_false_iff_not] at h2) | skip
      refine L_skip rfl rfl rfl rfl rfl rfl rfl ?_
      first | refine L_v rfl rfl rfl (V_pickT rfl rfl rfl) ?_ | refine L_v rfl rfl rfl (V_pickF rfl rfl rfl) ?_
      refine L_v rfl rfl rfl (V_assign rfl rfl) ?_
      refine L_nil ?_
      change J _ _ _ _
      refine J_false rfl ?_
      refine J_seq ?_
      refine J_region ?_
      refine L_v rfl rfl rfl (V_fieldAddr rfl rfl Try.underlying33 rfl sz31x rfl) ?_
      refine L_v rfl rfl rfl (V_load1 0 rfl rfl rfl Try.underlying31 rfl (by first | rfl | simp)) ?_
      refine L_v rfl rfl rfl (V_neq rfl rfl rfl (by first | exact decide_eq_true (by omega) | exact decide_eq_false (by omega) | rfl)) ?_
      refine L_v rfl rfl rfl (V_move rfl rfl) ?_
      refine L_wv rfl rfl rfl rfl rfl rfl (V_move rfl rfl) ?_
      refine L_wv rfl rfl rfl rfl rfl rfl (V_not rfl rfl rfl) ?_
      first | refine L_v rfl rfl rfl (V_pickT rfl rfl rfl) ?_ | refine L_v rfl rfl rfl (V_pickF rfl rfl rfl) ?_
      refine L_v rfl rfl rfl (V_assign rfl rfl) ?_
      refine L_nil ?_
      change J _ _ _ _
      refine J_cond rfl (fun h3 => ?_) (fun h3 => ?_)
      ·
        first | (have h3 := h3; rw [decide_eq_true_eq] at h3) | (have h3 := h3; rw [decide_eq_false_iff_not] at h3) | skip
        rw [hac, decide_eq_false h2] at h3; cases h3
      ·
        first | (have h3 := h3; rw [decide_eq_true_eq] at h3) | (have h3 := h3; rw [decide_eq_false_iff_not] at h3) | skip
        refine J_seq ?_
        refine J_region ?_
        refine L_v rfl rfl rfl (V_move rfl rfl) ?_
        refine L_v rfl rfl rfl (V_len rfl rfl Try.underlying22 rfl) ?_
        refine L_v rfl rfl rfl (V_geq rfl rfl rfl (by first | exact decide_eq_true (by omega) | exact decide_eq_false (by omega) | rfl)) ?_
        refine L_v rfl rfl rfl (V_assign rfl rfl) ?_
        refine L_nil ?_
        change J _ _ _ _
        refine J_false rfl ?_
        refine J_skip ?_
        change J _ _ _ _
        refine J_seq ?_
        refine J_region ?_
        refine L_v rfl rfl rfl (V_assign rfl rfl) ?_
        refine L_nil ?_
        change J _ _ _ _
        refine J_seq ?_
        refine J_region ?_
        refine L_v rfl rfl rfl (V_move rfl rfl) ?_
        refine L_v rfl rfl rfl (V_move rfl rfl) ?_
        refine L_appL [(b0, row 33 (vc v))] none [] (n' := n) (ks' := vcs l) rfl rfl rfl rfl rfl Try.underlying22 elv rfl ⟨rfl, rfl⟩ (fun w hw => SlC.src Try.underlying22 (SlC.later hw rfl hu) (vcs_1 l)) (Nat.zero_add n) (List.nil_append _) (by omega) (by omega) (fun q1 hq1 => ?_)
        refine L_v rfl rfl rfl (V_assign rfl rfl) ?_
        refine L_nil ?_
        change J _ _ _ _
        refine J_seq ?_
        refine J_region ?_
        refine L_v rfl rfl rfl (V_move rfl rfl) ?_
        refine L_v rfl rfl rfl (V_loadW 0 rfl rfl rfl Try.underlying33 rfl (szd sz33x (by first | rfl | (simp [dg_length, zd_length, *]; done)))) ?_
        refine L_buildSlice (vs := [(0, .agg (vc v).toArray)]) (l := vc v) rfl rfl rfl rfl rfl (bsV _) (fun b1 => ?_)
        refine L_appN [(b0, row 33 (vc v))] [(b1, row 33 (vc v))] q1 (vcs l) (n := n) (m := 1) (n' := n + 1) (ks' := vcs (l ++ [v])) rfl rfl rfl rfl rfl Try.underlying22 elv rfl hq1 (fun w hw => SlC.src Try.underlying22 (SlC.in hw (ks := vc v) (r := []) (fz := (0, 0)) (by first | exact List.mem_append_right _ (List.mem_singleton.2 rfl) | exact List.mem_append_left _ (List.mem_append_right _ (List.mem_singleton.2 rfl))) rfl 1) (vc_one _)) rfl (by rw [vcs_app, vcs_one]) (by omega) (by omega) (fun q2 hq2 => ?_)
        refine L_v rfl rfl rfl (V_assign rfl rfl) ?_
        refine L_nil ?_
        change J _ _ _ _
        refine J_seq ?_
        refine J_region ?_
        refine L_v rfl rfl rfl (V_move rfl rfl) ?_
        refine L_v rfl rfl rfl (V_assign rfl rfl) ?_
        refine L_v rfl rfl rfl (V_assign rfl rfl) ?_
        refine L_nil ?_
        change J _ _ _ _
        refine J_ret ?_
        change Kret _ _ _ Exit.ret _
        refine ret2 rfl rfl (RV_t rfl) (RV_t rfl) ?_
        exact fun w' h => RetO.of (q := q2) (m1 := [(b0, row 33 (vc v))]) (m2 := [(b1, row 33 (vc v))]) h rfl hq2 rfl rfl

theorem rnext_no (a : Option Addr) (n c : Nat) (l : List Ver) (w : World) (hl : l.length = n) (hu : SlC 3 w (.slice a n c) n (vcs l)) (hn : n ≤ 1048576) (v : Ver) (h : nextE l v ≠ 0) :
    Calls Try.prog 17 #[.slice a n c, .agg (vc v).toArray] w fun e w' => e = .returned (.tuple #[.slice none 0 0, .int .i64 (nextE l v)]) ∧ Fr [] w w' := by
  refine calls_of (args := [.slice a n c, .agg (vc v).toArray]) ([]) ([]) ([]) Try.func17 rfl rfl (okW0 _ _ _ _) ?_
  refine J_seq ?_
  refine J_region ?_
  refine L_box rfl rfl rfl rfl rfl (fun b0 => ?_)
  refine L_v rfl rfl rfl (V_assign rfl rfl) ?_
  refine L_v rfl rfl rfl (V_assign rfl rfl) ?_
  refine L_nil ?_
  change J _ _ _ _
  refine J_seq ?_
  refine J_region ?_
  refine L_v rfl rfl rfl (V_move rfl rfl) ?_
  refine L_callV rfl rfl rfl rfl rfl rfl tx12x (fun w hw => ractive_w _ _ _ l w hl (SlC.later hw rfl hu) hn) ?_
  refine L_v rfl rfl rfl (V_move rfl rfl) ?_
  refine L_v rfl rfl rfl (V_extract rfl rfl rfl) ?_
  refine L_v rfl rfl rfl (V_extract rfl rfl rfl) ?_
  refine L_v rfl rfl rfl (V_assign rfl rfl) ?_
  refine L_v rfl rfl rfl (V_assign rfl rfl) ?_
  refine L_nil ?_
  change J _ _ _ _
  refine J_seq ?_
  refine J_block ?_
  refine J_seq ?_
  refine J_regionQ rfl (by kernel_rfl) ?_
  refine LQ_v rfl rfl rfl (V_move rfl rfl) ?_
  refine LQ_callV rfl rfl rfl rfl rfl rfl tx14x (fun w hw => ish_w _ _ _ l w hl (SlC.later hw rfl hu) hn) ?_
  refine LQ_v rfl rfl rfl (V_not rfl rfl rfl) ?_
  refine LQ_v rfl rfl rfl (V_move rfl rfl) ?_
  refine LQ_split 18 rfl (fun h1 => ?_) (fun h1 => ?_)
  ·
    first | (have h1 := h1; rw [decide_eq_true_eq] at h1) | (have h1 := h1; rw [decide_eq_false_iff_not] at h1) | skip
    refine LQ_skip rfl rfl rfl rfl rfl rfl rfl ?_
    refine LQ_skip rfl rfl rfl rfl rfl rfl rfl ?_
    refine LQ_skip rfl rfl rfl rfl rfl rfl rfl ?_
    first | refine LQ_v rfl rfl rfl (V_pickT rfl rfl rfl) ?_ | refine LQ_v rfl rfl rfl (V_pickF rfl rfl rfl) ?_
    refine LQ_v rfl rfl rfl (V_move rfl rfl) ?_
    refine LQ_skip rfl rfl rfl rfl rfl rfl rfl ?_
    refine LQ_skip rfl rfl rfl rfl rfl rfl rfl ?_
    refine LQ_skip rfl rfl rfl rfl rfl rfl rfl ?_
    refine LQ_skip rfl rfl rfl rfl rfl rfl rfl ?_
    refine LQ_skip rfl rfl rfl rfl rfl rfl rfl ?_
    refine LQ_skip rfl rfl rfl rfl rfl rfl rfl ?_
    refine LQ_skip rfl rfl rfl rfl rfl rfl rfl ?_
    refine LQ_skip rfl rfl rfl rfl rfl rfl rfl ?_
    refine LQ_skip rfl rfl rfl rfl rfl rfl rfl ?_
    refine LQ_skip rfl rfl rfl rfl rfl rfl rfl ?_
    refine LQ_skip rfl rfl rfl rfl rfl rfl rfl ?_
    refine LQ_skip rfl rfl rfl rfl rfl rfl rfl ?_
    refine LQ_skip rfl rfl rfl rfl rfl rfl rfl ?_
    refine LQ_skip rfl rfl rfl rfl rfl rfl rfl ?_
    refine LQ_skip rfl rfl rfl rfl rfl rfl rfl ?_
    first | refine LQ_v rfl rfl rfl (V_pickT rfl rfl rfl) ?_ | refine LQ_v rfl rfl rfl (V_pickF rfl rfl rfl) ?_
    refine LQ_v rfl rfl rfl (V_assign rfl rfl) ?_
    refine LQ_nil ?_
    change J _ _ _ _
    refine J_true rfl ?_
    refine J_seq ?_
    refine J_region ?_
    refine L_v rfl rfl rfl (V_assign rfl rfl) ?_
    refine L_v rfl rfl rfl (V_assign rfl rfl) ?_
    refine L_nil ?_
    change J _ _ _ _
    refine J_ret ?_
    change Kret _ _ _ Exit.ret _
    refine ret2 rfl rfl (RV_t rfl) (RV_t rfl) ?_
    have h9 := nextE_form (l := l) (v := v) (.inl (nbT h1))
    exact fun w' h => ⟨by rw [h9], h.fr⟩
  ·
    first | (have h1 := h1; rw [decide_eq_true_eq] at h1) | (have h1 := h1; rw [decide_eq_false_iff_not] at h1) | skip
    have hh := nbF h1
    refine LQ_wv rfl rfl rfl rfl rfl rfl (V_loadW 0 rfl rfl rfl Try.underlying33 rfl (szd sz33x (by first | rfl | (simp [dg_length, zd_length, *]; done)))) ?_
    refine LQ_wcallV rfl rfl rfl rfl rfl rfl rfl rfl rfl tx31x (fun w _ => rmay_w _ w) ?_
    refine LQ_wv rfl rfl rfl rfl rfl rfl (V_not rfl rfl rfl) ?_
    first | refine LQ_v rfl rfl rfl (V_pickT rfl rfl rfl) ?_ | refine LQ_v rfl rfl rfl (V_pickF rfl rfl rfl) ?_
    refine LQ_v rfl rfl rfl (V_move rfl rfl) ?_
    refine LQ_split 23 rfl (fun h2 => ?_) (fun h2 => ?_)
    ·
      first | (have h2 := h2; rw [decide_eq_true_eq] at h2) | (have h2 := h2; rw [decide_eq_false_iff_not] at h2) | skip
      refine LQ_skip rfl rfl rfl rfl rfl rfl rfl ?_
      refine LQ_skip rfl rfl rfl rfl rfl rfl rfl ?_
      refine LQ_skip rfl rfl rfl rfl rfl rfl rfl ?_
      refine LQ_skip rfl rfl rfl rfl rfl rfl rfl ?_
      refine LQ_skip rfl rfl rfl rfl rfl rfl rfl ?_
      refine LQ_skip rfl rfl rfl rfl rfl rfl rfl ?_
      refine LQ_skip rfl rfl rfl rfl rfl rfl rfl ?_
      refine LQ_skip rfl rfl rfl rfl rfl rfl rfl ?_
      refine LQ_skip rfl rfl rfl rfl rfl rfl rfl ?_
      refine LQ_skip rfl rfl rfl rfl rfl rfl rfl ?_
      refine LQ_skip rfl rfl rfl rfl rfl rfl rfl ?_
      refine LQ_skip rfl rfl rfl rfl rfl rfl rfl ?_
      refine LQ_skip rfl rfl rfl rfl rfl rfl rfl ?_
      refine LQ_skip rfl rfl rfl rfl rfl rfl rfl ?_
      refine LQ_skip rfl rfl rfl rfl rfl rfl rfl ?_
      first | refine LQ_v rfl rfl rfl (V_pickT rfl rfl rfl) ?_ | refine LQ_v rfl rfl rfl (V_pickF rfl rfl rfl) ?_
      refine LQ_v rfl rfl rfl (V_assign rfl rfl) ?_
      refine LQ_nil ?_
      change J _ _ _ _
      refine J_true rfl ?_
      refine J_seq ?_
      refine J_region ?_
      refine L_v rfl rfl rfl (V_assign rfl rfl) ?_
      refine L_v rfl rfl rfl (V_assign rfl rfl) ?_
      refine L_nil ?_
      change J _ _ _ _
      refine J_ret ?_
      change Kret _ _ _ Exit.ret _
      refine ret2 rfl rfl (RV_t rfl) (RV_t rfl) ?_
      have h9 := nextE_form (l := l) (v := v) (.inr (.inl (nbT h2)))
      exact fun w' h => ⟨by rw [h9], h.fr⟩
    ·
      first | (have h2 := h2; rw [decide_eq_true_eq] at h2) | (have h2 := h2; rw [decide_eq_false_iff_not] at h2) | skip
      have hm := nbF h2
      refine LQ_wv rfl rfl rfl rfl rfl rfl (V_move rfl rfl) ?_
      refine LQ_wv rfl rfl rfl rfl rfl rfl (V_len rfl rfl Try.underlying22 rfl) ?_
      refine LQ_wv rfl rfl rfl rfl rfl rfl (V_gtr rfl rfl rfl (by first | exact decide_eq_true (by omega) | exact decide_eq_false (by omega) | rfl)) ?_
      refine LQ_wv rfl rfl rfl rfl rfl rfl (V_move rfl rfl) ?_
      refine LQ_split 27 rfl (fun h3 => ?_) (fun h3 => ?_)
      ·
        first | (have h3 := h3; rw [decide_eq_true_eq] at h3) | (have h3 := h3; rw [decide_eq_false_iff_not] at h3) | skip
        have hL : lastV l = l.getD (n - 1) v0 := by unfold lastV; rw [hl]
        refine LQ_wv rfl rfl rfl rfl rfl rfl (V_fieldAddr rfl rfl Try.underlying33 rfl sz3x rfl) ?_
        refine LQ_wv rfl rfl rfl rfl rfl rfl (V_load1 0 rfl rfl rfl Try.underlying3 rfl (by first | rfl | simp)) ?_
        refine LQ_wv rfl rfl rfl rfl rfl rfl (V_move rfl rfl) ?_
        refine LQ_wv rfl rfl rfl rfl rfl rfl (V_move rfl rfl) ?_
        refine LQ_wv rfl rfl rfl rfl rfl rfl (V_len rfl rfl Try.underlying22 rfl) ?_
        refine LQ_wv rfl rfl rfl rfl rfl rfl (V_sub rfl rfl rfl (by first | exact Go.IntWalk.i64_in _ (by omega) | rfl)) ?_
        refine LQ_wv rfl rfl rfl rfl rfl rfl (V_indexC rfl rfl rfl Try.underlying22 sz33x (fun w hw => SlC.later hw rfl hu) (by omega) (by omega)) ?_
        refine LQ_wv rfl rfl rfl rfl rfl rfl (V_fieldC rfl rfl (fun w hw => (let ⟨b, o, e, _⟩ := SlC.cell (SlC.later hw rfl hu) (show (vcs l)[((n : Int) - 1).toNat * (2 + 1)]? = some (.int .i64 (l.getD (n - 1) v0).1) from (by rw [show ((n : Int) - 1).toNat = ((n - 1 : Nat) : Int).toNat by omega]; exact vcs_e (by omega))); ⟨b, o, e⟩)) Try.underlying33 rfl sz3x rfl) ?_
        refine LQ_wv rfl rfl rfl rfl rfl rfl (V_loadC rfl rfl Try.underlying3 rfl (fun w hw => SlC.later hw rfl hu) (by rw [show ((n : Int) - 1).toNat = ((n - 1 : Nat) : Int).toNat by omega]; exact vcs_e (by omega))) ?_
        refine LQ_wv rfl rfl rfl rfl rfl rfl (V_lss rfl rfl rfl (by first | exact decide_eq_true (by omega) | exact decide_eq_false (by omega) | rfl)) ?_
        first | refine LQ_wv rfl rfl rfl rfl rfl rfl (V_pickT rfl rfl rfl) ?_ | refine LQ_wv rfl rfl rfl rfl rfl rfl (V_pickF rfl rfl rfl) ?_
        first | refine LQ_v rfl rfl rfl (V_pickT rfl rfl rfl) ?_ | refine LQ_v rfl rfl rfl (V_pickF rfl rfl rfl) ?_
        refine LQ_v rfl rfl rfl (V_assign rfl rfl) ?_
        refine LQ_nil ?_
        change J _ _ _ _
        refine J_cond rfl (fun h4 => ?_) (fun h4 => ?_)
        ·
          first | (have h4 := h4; rw [decide_eq_true_eq] at h4) | (have h4 := h4; rw [decide_eq_false_iff_not] at h4) | skip
          refine J_seq ?_
          refine J_region ?_
          refine L_v rfl rfl rfl (V_assign rfl rfl) ?_
          refine L_v rfl rfl rfl (V_assign rfl rfl) ?_
          refine L_nil ?_
          change J _ _ _ _
          refine J_ret ?_
          change Kret _ _ _ Exit.ret _
          refine ret2 rfl rfl (RV_t rfl) (RV_t rfl) ?_
          have h9 := nextE_form (l := l) (v := v) (.inr (.inr (by rw [hL]; exact h4)))
          exact fun w' h => ⟨by rw [h9], h.fr⟩
        ·
          first | (have h4 := h4; rw [decide_eq_true_eq] at h4) | (have h4 := h4; rw [decide_eq_false_iff_not] at h4) | skip
          have he : ¬ v.1 < (lastV l).1 := by rw [hL]; exact h4
          have h3 := True.intro
          refine J_seq ?_
          refine J_region ?_
          refine L_v rfl rfl rfl (V_fieldAddr rfl rfl Try.underlying33 rfl sz31x rfl) ?_
          refine L_v rfl rfl rfl (V_load1 0 rfl rfl rfl Try.underlying31 rfl (by first | rfl | simp)) ?_
          refine L_v rfl rfl rfl (V_eql rfl rfl rfl (by first | exact decide_eq_true (by omega) | exact decide_eq_false (by omega) | rfl)) ?_
          refine L_v rfl rfl rfl (V_move rfl rfl) ?_
          refine L_split 44 rfl (fun h5 => ?_) (fun h5 => ?_)
          ·
            first | (have h5 := h5; rw [decide_eq_true_eq] at h5) | (have h5 := h5; rw [decide_eq_false_iff_not] at h5) | skip
            refine L_wv rfl rfl rfl rfl rfl rfl (V_move rfl rfl) ?_
            first | refine L_v rfl rfl rfl (V_pickT rfl rfl rfl) ?_ | refine L_v rfl rfl rfl (V_pickF rfl rfl rfl) ?_
            refine L_v rfl rfl rfl (V_assign rfl rfl) ?_
            refine L_nil ?_
            change J _ _ _ _
            refine J_cond rfl (fun h6 => ?_) (fun h6 => ?_)
            ·
              first | (have h6 := h6; rw [decide_eq_true_eq] at h6) | (have h6 := h6; rw [decide_eq_false_iff_not] at h6) | skip
              refine J_seq ?_
              refine J_region ?_
              refine L_v rfl rfl rfl (V_assign rfl rfl) ?_
              refine L_v rfl rfl rfl (V_assign rfl rfl) ?_
              refine L_nil ?_
              change J _ _ _ _
              refine J_ret ?_
              change Kret _ _ _ Exit.ret _
              refine ret2 rfl rfl (RV_t rfl) (RV_t rfl) ?_
              have h9 := nextE_there hh hm he h5 (by have := actV_2 hh; rw [h6] at this; exact nbT this.symm)
              exact fun w' h => ⟨by rw [h9], h.fr⟩
            ·
              first | (have h6 := h6; rw [decide_eq_true_eq] at h6) | (have h6 := h6; rw [decide_eq_false_iff_not] at h6) | skip
              refine J_seq ?_
              refine J_region ?_
              refine L_v rfl rfl rfl (V_fieldAddr rfl rfl Try.underlying33 rfl sz31x rfl) ?_
              refine L_v rfl rfl rfl (V_load1 0 rfl rfl rfl Try.underlying31 rfl (by first | rfl | simp)) ?_
              refine L_v rfl rfl rfl (V_neq rfl rfl rfl (by first | exact decide_eq_true (by omega) | exact decide_eq_false (by omega) | rfl)) ?_
              refine L_v rfl rfl rfl (V_move rfl rfl) ?_
              refine L_skip rfl rfl rfl rfl rfl rfl rfl ?_
              refine L_skip rfl rfl rfl rfl rfl rfl rfl ?_
              first | refine L_v rfl rfl rfl (V_pickT rfl rfl rfl) ?_ | refine L_v rfl rfl rfl (V_pickF rfl rfl rfl) ?_
              refine L_v rfl rfl rfl (V_assign rfl rfl) ?_
              refine L_nil ?_
              change J _ _ _ _
              refine J_false rfl ?_
              refine J_seq ?_
              refine J_region ?_
              refine L_v rfl rfl rfl (V_move rfl rfl) ?_
              refine L_v rfl rfl rfl (V_len rfl rfl Try.underlying22 rfl) ?_
              refine L_v rfl rfl rfl (V_geq rfl rfl rfl (by first | exact decide_eq_true (by omega) | exact decide_eq_false (by omega) | rfl)) ?_
              refine L_v rfl rfl rfl (V_assign rfl rfl) ?_
              refine L_nil ?_
              change J _ _ _ _
              refine J_cond rfl (fun h7 => ?_) (fun h7 => ?_)
              ·
                first | (have h7 := h7; rw [decide_eq_true_eq] at h7) | (have h7 := h7; rw [decide_eq_false_iff_not] at h7) | skip
                refine J_seq ?_
                refine J_region ?_
                refine L_v rfl rfl rfl (V_assign rfl rfl) ?_
                refine L_v rfl rfl rfl (V_assign rfl rfl) ?_
                refine L_nil ?_
                change J _ _ _ _
                refine J_ret ?_
                change Kret _ _ _ Exit.ret _
                refine ret2 rfl rfl (RV_t rfl) (RV_t rfl) ?_
                have h9 := nextE_lim hh hm he (by have := actV_2 hh; rw [h6] at this; rw [nbF this.symm, decide_eq_true h5])
                have hlen := isH_len hh
                rw [if_pos (by omega)] at h9
                exact fun w' h => ⟨by rw [h9], h.fr⟩
              ·
                first | (have h7 := h7; rw [decide_eq_true_eq] at h7) | (have h7 := h7; rw [decide_eq_false_iff_not] at h7) | skip
                have h9 := nextE_lim hh hm he (by have := actV_2 hh; rw [h6] at this; rw [nbF this.symm, decide_eq_true h5])
                rw [if_neg (by omega)] at h9
                exact absurd h9 h
          ·
            first | (have h5 := h5; rw [decide_eq_true_eq] at h5) | (have h5 := h5; rw [decide_eq_false_iff_not] at h5) | skip
            refine L_skip rfl rfl rfl rfl rfl rfl rfl ?_
            first | refine L_v rfl rfl rfl (V_pickT rfl rfl rfl) ?_ | refine L_v rfl rfl rfl (V_pickF rfl rfl rfl) ?_
            refine L_v rfl rfl rfl (V_assign rfl rfl) ?_
            refine L_nil ?_
            change J _ _ _ _
            refine J_false rfl ?_
            refine J_seq ?_
            refine J_region ?_
            refine L_v rfl rfl rfl (V_fieldAddr rfl rfl Try.underlying33 rfl sz31x rfl) ?_
            refine L_v rfl rfl rfl (V_load1 0 rfl rfl rfl Try.underlying31 rfl (by first | rfl | simp)) ?_
            refine L_v rfl rfl rfl (V_neq rfl rfl rfl (by first | exact decide_eq_true (by omega) | exact decide_eq_false (by omega) | rfl)) ?_
            refine L_v rfl rfl rfl (V_move rfl rfl) ?_
            refine L_wv rfl rfl rfl rfl rfl rfl (V_move rfl rfl) ?_
            refine L_wv rfl rfl rfl rfl rfl rfl (V_not rfl rfl rfl) ?_
            first | refine L_v rfl rfl rfl (V_pickT rfl rfl rfl) ?_ | refine L_v rfl rfl rfl (V_pickF rfl rfl rfl) ?_
            refine L_v rfl rfl rfl (V_assign rfl rfl) ?_
            refine L_nil ?_
            change J _ _ _ _
            refine J_cond rfl (fun h6 => ?_) (fun h6 => ?_)
            ·
              first | (have h6 := h6; rw [decide_eq_true_eq] at h6) | (have h6 := h6; rw [decide_eq_false_iff_not] at h6) | skip
              refine J_seq ?_
              refine J_region ?_
              refine L_v rfl rfl rfl (V_assign rfl rfl) ?_
              refine L_v rfl rfl rfl (V_assign rfl rfl) ?_
              refine L_nil ?_
              change J _ _ _ _
              refine J_ret ?_
              change Kret _ _ _ Exit.ret _
              refine ret2 rfl rfl (RV_t rfl) (RV_t rfl) ?_
              have h9 := nextE_none hh hm he h5 (by have := actV_2 hh; rw [nbT h6] at this; exact nbF this.symm)
              exact fun w' h => ⟨by rw [h9], h.fr⟩
            ·
              first | (have h6 := h6; rw [decide_eq_true_eq] at h6) | (have h6 := h6; rw [decide_eq_false_iff_not] at h6) | skip
              refine J_seq ?_
              refine J_region ?_
              refine L_v rfl rfl rfl (V_move rfl rfl) ?_
              refine L_v rfl rfl rfl (V_len rfl rfl Try.underlying22 rfl) ?_
              refine L_v rfl rfl rfl (V_geq rfl rfl rfl (by first | exact decide_eq_true (by omega) | exact decide_eq_false (by omega) | rfl)) ?_
              refine L_v rfl rfl rfl (V_assign rfl rfl) ?_
              refine L_nil ?_
              change J _ _ _ _
              refine J_cond rfl (fun h7 => ?_) (fun h7 => ?_)
              ·
                first | (have h7 := h7; rw [decide_eq_true_eq] at h7) | (have h7 := h7; rw [decide_eq_false_iff_not] at h7) | skip
                refine J_seq ?_
                refine J_region ?_
                refine L_v rfl rfl rfl (V_assign rfl rfl) ?_
                refine L_v rfl rfl rfl (V_assign rfl rfl) ?_
                refine L_nil ?_
                change J _ _ _ _
                refine J_ret ?_
                change Kret _ _ _ Exit.ret _
                refine ret2 rfl rfl (RV_t rfl) (RV_t rfl) ?_
                have h9 := nextE_lim hh hm he (by have := actV_2 hh; rw [nbF h6] at this; rw [nbT this.symm, decide_eq_false h5])
                have hlen := isH_len hh
                rw [if_pos (by omega)] at h9
                exact fun w' h => ⟨by rw [h9], h.fr⟩
              ·
                first | (have h7 := h7; rw [decide_eq_true_eq] at h7) | (have h7 := h7; rw [decide_eq_false_iff_not] at h7) | skip
                have h9 := nextE_lim hh hm he (by have := actV_2 hh; rw [nbF h6] at this; rw [nbT this.symm, decide_eq_false h5])
                rw [if_neg (by omega)] at h9
                exact absurd h9 h
      ·
        first | (have h3 := h3; rw [decide_eq_true_eq] at h3) | (have h3 := h3; rw [decide_eq_false_iff_not] at h3) | skip
        refine LQ_skip rfl rfl rfl rfl rfl rfl rfl ?_
        refine LQ_skip rfl rfl rfl rfl rfl rfl rfl ?_
        refine LQ_skip rfl rfl rfl rfl rfl rfl rfl ?_
        refine LQ_skip rfl rfl rfl rfl rfl rfl rfl ?_
        refine LQ_skip rfl rfl rfl rfl rfl rfl rfl ?_
        refine LQ_skip rfl rfl rfl rfl rfl rfl rfl ?_
        refine LQ_skip rfl rfl rfl rfl rfl rfl rfl ?_
        refine LQ_skip rfl rfl rfl rfl rfl rfl rfl ?_
        refine LQ_skip rfl rfl rfl rfl rfl rfl rfl ?_
        refine LQ_skip rfl rfl rfl rfl rfl rfl rfl ?_
        first | refine LQ_wv rfl rfl rfl rfl rfl rfl (V_pickT rfl rfl rfl) ?_ | refine LQ_wv rfl rfl rfl rfl rfl rfl (V_pickF rfl rfl rfl) ?_
        first | refine LQ_v rfl rfl rfl (V_pickT rfl rfl rfl) ?_ | refine LQ_v rfl rfl rfl (V_pickF rfl rfl rfl) ?_
        refine LQ_v rfl rfl rfl (V_assign rfl rfl) ?_
        refine LQ_nil ?_
        change J _ _ _ _
        refine J_false rfl ?_
        refine J_seq ?_
        refine J_region ?_
        refine L_v rfl rfl rfl (V_fieldAddr rfl rfl Try.underlying33 rfl sz31x rfl) ?_
        refine L_v rfl rfl rfl (V_load1 0 rfl rfl rfl Try.underlying31 rfl (by first | rfl | simp)) ?_
        refine L_v rfl rfl rfl (V_eql rfl rfl rfl (by first | exact decide_eq_true (by omega) | exact decide_eq_false (by omega) | rfl)) ?_
        refine L_v rfl rfl rfl (V_move rfl rfl) ?_
        have he := last_ep (l := l) (v := v) (by omega) hm
        refine L_split 44 rfl (fun h4 => ?_) (fun h4 => ?_)
        ·
          first | (have h4 := h4; rw [decide_eq_true_eq] at h4) | (have h4 := h4; rw [decide_eq_false_iff_not] at h4) | skip
          refine L_wv rfl rfl rfl rfl rfl rfl (V_move rfl rfl) ?_
          first | refine L_v rfl rfl rfl (V_pickT rfl rfl rfl) ?_ | refine L_v rfl rfl rfl (V_pickF rfl rfl rfl) ?_
          refine L_v rfl rfl rfl (V_assign rfl rfl) ?_
          refine L_nil ?_
          change J _ _ _ _
          refine J_cond rfl (fun h5 => ?_) (fun h5 => ?_)
          ·
            first | (have h5 := h5; rw [decide_eq_true_eq] at h5) | (have h5 := h5; rw [decide_eq_false_iff_not] at h5) | skip
            refine J_seq ?_
            refine J_region ?_
            refine L_v rfl rfl rfl (V_assign rfl rfl) ?_
            refine L_v rfl rfl rfl (V_assign rfl rfl) ?_
            refine L_nil ?_
            change J _ _ _ _
            refine J_ret ?_
            change Kret _ _ _ Exit.ret _
            refine ret2 rfl rfl (RV_t rfl) (RV_t rfl) ?_
            have h9 := nextE_there hh hm he h4 (by have := actV_2 hh; rw [h5] at this; exact nbT this.symm)
            exact fun w' h => ⟨by rw [h9], h.fr⟩
          ·
            first | (have h5 := h5; rw [decide_eq_true_eq] at h5) | (have h5 := h5; rw [decide_eq_false_iff_not] at h5) | skip
            refine J_seq ?_
            refine J_region ?_
            refine L_v rfl rfl rfl (V_fieldAddr rfl rfl Try.underlying33 rfl sz31x rfl) ?_
            refine L_v rfl rfl rfl (V_load1 0 rfl rfl rfl Try.underlying31 rfl (by first | rfl | simp)) ?_
            refine L_v rfl rfl rfl (V_neq rfl rfl rfl (by first | exact decide_eq_true (by omega) | exact decide_eq_false (by omega) | rfl)) ?_
            refine L_v rfl rfl rfl (V_move rfl rfl) ?_
            refine L_skip rfl rfl rfl rfl rfl rfl rfl ?_
            refine L_skip rfl rfl rfl rfl rfl rfl rfl ?_
            first | refine L_v rfl rfl rfl (V_pickT rfl rfl rfl) ?_ | refine L_v rfl rfl rfl (V_pickF rfl rfl rfl) ?_
            refine L_v rfl rfl rfl (V_assign rfl rfl) ?_
            refine L_nil ?_
            change J _ _ _ _
            refine J_false rfl ?_
            refine J_seq ?_
            refine J_region ?_
            refine L_v rfl rfl rfl (V_move rfl rfl) ?_
            refine L_v rfl rfl rfl (V_len rfl rfl Try.underlying22 rfl) ?_
            refine L_v rfl rfl rfl (V_geq rfl rfl rfl (by first | exact decide_eq_true (by omega) | exact decide_eq_false (by omega) | rfl)) ?_
            refine L_v rfl rfl rfl (V_assign rfl rfl) ?_
            refine L_nil ?_
            change J _ _ _ _
            refine J_cond rfl (fun h6 => ?_) (fun h6 => ?_)
            ·
              first | (have h6 := h6; rw [decide_eq_true_eq] at h6) | (have h6 := h6; rw [decide_eq_false_iff_not] at h6) | skip
              refine J_seq ?_
              refine J_region ?_
              refine L_v rfl rfl rfl (V_assign rfl rfl) ?_
              refine L_v rfl rfl rfl (V_assign rfl rfl) ?_
              refine L_nil ?_
              change J _ _ _ _
              refine J_ret ?_
              change Kret _ _ _ Exit.ret _
              refine ret2 rfl rfl (RV_t rfl) (RV_t rfl) ?_
              have h9 := nextE_lim hh hm he (by have := actV_2 hh; rw [h5] at this; rw [nbF this.symm, decide_eq_true h4])
              have hlen := isH_len hh
              rw [if_pos (by omega)] at h9
              exact fun w' h => ⟨by rw [h9], h.fr⟩
            ·
              first | (have h6 := h6; rw [decide_eq_true_eq] at h6) | (have h6 := h6; rw [decide_eq_false_iff_not] at h6) | skip
              have h9 := nextE_lim hh hm he (by have := actV_2 hh; rw [h5] at this; rw [nbF this.symm, decide_eq_true h4])
              rw [if_neg (by omega)] at h9
              exact absurd h9 h
        ·
          first | (have h4 := h4; rw [decide_eq_true_eq] at h4) | (have h4 := h4; rw [decide_eq_false_iff_not] at h4) | skip
          refine L_skip rfl rfl rfl rfl rfl rfl rfl ?_
          first | refine L_v rfl rfl rfl (V_pickT rfl rfl rfl) ?_ | refine L_v rfl rfl rfl (V_pickF rfl rfl rfl) ?_
          refine L_v rfl rfl rfl (V_assign rfl rfl) ?_
          refine L_nil ?_
          change J _ _ _ _
          refine J_false rfl ?_
          refine J_seq ?_
          refine J_region ?_
          refine L_v rfl rfl rfl (V_fieldAddr rfl rfl Try.underlying33 rfl sz31x rfl) ?_
          refine L_v rfl rfl rfl (V_load1 0 rfl rfl rfl Try.underlying31 rfl (by first | rfl | simp)) ?_
          refine L_v rfl rfl rfl (V_neq rfl rfl rfl (by first | exact decide_eq_true (by omega) | exact decide_eq_false (by omega) | rfl)) ?_
          refine L_v rfl rfl rfl (V_move rfl rfl) ?_
          refine L_wv rfl rfl rfl rfl rfl rfl (V_move rfl rfl) ?_
          refine L_wv rfl rfl rfl rfl rfl rfl (V_not rfl rfl rfl) ?_
          first | refine L_v rfl rfl rfl (V_pickT rfl rfl rfl) ?_ | refine L_v rfl rfl rfl (V_pickF rfl rfl rfl) ?_
          refine L_v rfl rfl rfl (V_assign rfl rfl) ?_
          refine L_nil ?_
          change J _ _ _ _
          refine J_cond rfl (fun h5 => ?_) (fun h5 => ?_)
          ·
            first | (have h5 := h5; rw [decide_eq_true_eq] at h5) | (have h5 := h5; rw [decide_eq_false_iff_not] at h5) | skip
            refine J_seq ?_
            refine J_region ?_
            refine L_v rfl rfl rfl (V_assign rfl rfl) ?_
            refine L_v rfl rfl rfl (V_assign rfl rfl) ?_
            refine L_nil ?_
            change J _ _ _ _
            refine J_ret ?_
            change Kret _ _ _ Exit.ret _
            refine ret2 rfl rfl (RV_t rfl) (RV_t rfl) ?_
            have h9 := nextE_none hh hm he h4 (by have := actV_2 hh; rw [nbT h5] at this; exact nbF this.symm)
            exact fun w' h => ⟨by rw [h9], h.fr⟩
          ·
            first | (have h5 := h5; rw [decide_eq_true_eq] at h5) | (have h5 := h5; rw [decide_eq_false_iff_not] at h5) | skip
            refine J_seq ?_
            refine J_region ?_
            refine L_v rfl rfl rfl (V_move rfl rfl) ?_
            refine L_v rfl rfl rfl (V_len rfl rfl Try.underlying22 rfl) ?_
            refine L_v rfl rfl rfl (V_geq rfl rfl rfl (by first | exact decide_eq_true (by omega) | exact decide_eq_false (by omega) | rfl)) ?_
            refine L_v rfl rfl rfl (V_assign rfl rfl) ?_
            refine L_nil ?_
            change J _ _ _ _
            refine J_cond rfl (fun h6 => ?_) (fun h6 => ?_)
            ·
              first | (have h6 := h6; rw [decide_eq_true_eq] at h6) | (have h6 := h6; rw [decide_eq_false_iff_not] at h6) | skip
              refine J_seq ?_
              refine J_region ?_
              refine L_v rfl rfl rfl (V_assign rfl rfl) ?_
              refine L_v rfl rfl rfl (V_assign rfl rfl) ?_
              refine L_nil ?_
              change J _ _ _ _
              refine J_ret ?_
              change Kret _ _ _ Exit.ret _
              refine ret2 rfl rfl (RV_t rfl) (RV_t rfl) ?_
              have h9 := nextE_lim hh hm he (by have := actV_2 hh; rw [nbF h5] at this; rw [nbT this.symm, decide_eq_false h4])
              have hlen := isH_len hh
              rw [if_pos (by omega)] at h9
              exact fun w' h => ⟨by rw [h9], h.fr⟩
            ·
              first | (have h6 := h6; rw [decide_eq_true_eq] at h6) | (have h6 := h6; rw [decide_eq_false_iff_not] at h6) | skip
              have h9 := nextE_lim hh hm he (by have := actV_2 hh; rw [nbF h5] at this; rw [nbT this.symm, decide_eq_false h4])
              rw [if_neg (by omega)] at h9
              exact absurd h9 h

end Go.Proofs.Ythafhiemecfjiaa
