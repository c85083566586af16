/- What the law comes to. -/
import Derived.Test.YthafhiemecfjiaaVersion4
set_option linter.unusedVariables false
set_option linter.unusedSimpArgs false
set_option maxRecDepth 100000
namespace Go.Proofs.Ythafhiemecfjiaa
open Go.Sx
theorem bneF {b c : Bool} (h : b = c) : (!(b == c)) = false := by subst h; cases b <;> rfl
theorem sz9z : (Try.prog.info? 9).map (·.size) = some 1 := by kernel_rfl
theorem sz31z : (Try.prog.info? 31).map (·.size) = some 1 := by kernel_rfl
theorem sz33z : (Try.prog.info? 33).map (·.size) = some 3 := by kernel_rfl
theorem tx11z : Txt Try.prog 11 := txt_of Try.func11 rfl (by kernel_rfl)
theorem tx13z : Txt Try.prog 13 := txt_of Try.func13 rfl (by kernel_rfl)
theorem tx16z : Txt Try.prog 16 := txt_of Try.func16 rfl (by kernel_rfl)
theorem tx18z : Txt Try.prog 18 := txt_of Try.func18 rfl (by kernel_rfl)

theorem VersionKeys_in (a : Option Addr) (n c : Nat) (l : List Ver) (w : World) (hl : l.length = n) (hu : SlC 3 w (.slice a n c) n (vcs l)) (hcn : n ≤ c) (a2 : Option Addr) (n2 c2 : Nat) (l2 : List Ver) (hl2 : l2.length = n2) (hu2 : SlC 3 w (.slice a2 n2 c2) n2 (vcs l2)) :
    Calls Try.prog 5 #[.slice a n c, .slice a2 n2 c2] w fun e w' => e = .returned (.bool true) ∧ Fr [] w w' := by
  refine calls_of (args := [.slice a n c, .slice a2 n2 c2]) ([]) ([]) ([]) Try.func5 rfl rfl (okW0 _ _ _ _) ?_
  refine J_seq ?_
  refine J_region ?_
  refine L_v rfl rfl rfl (V_assign rfl rfl) ?_
  refine L_nil ?_
  change J _ _ _ _
  refine J_seq ?_
  refine J_seq ?_
  refine J_region ?_
  refine L_v rfl rfl rfl (V_move rfl rfl) ?_
  refine L_v rfl rfl rfl (V_len rfl rfl Try.underlying22 rfl) ?_
  refine L_v rfl rfl rfl (V_gtr rfl rfl rfl (by first | exact decide_eq_true (by omega) | exact decide_eq_false (by omega) | rfl)) ?_
  refine L_v rfl rfl rfl (V_move rfl rfl) ?_
  refine L_split 17 rfl (fun h1 => ?_) (fun h1 => ?_)
  ·
    first | (have h1 := h1; rw [decide_eq_true_eq] at h1) | (have h1 := h1; rw [decide_eq_false_iff_not] at h1) | skip
    refine L_skip rfl rfl rfl rfl rfl rfl rfl ?_
    refine L_skip rfl rfl rfl rfl rfl rfl rfl ?_
    refine L_skip rfl rfl rfl rfl rfl rfl rfl ?_
    first | refine L_v rfl rfl rfl (V_pickT rfl rfl rfl) ?_ | refine L_v rfl rfl rfl (V_pickF rfl rfl rfl) ?_
    refine L_nil ?_
    change J _ _ _ _
    refine J_true rfl ?_
    refine J_seq ?_
    refine J_region ?_
    refine L_v rfl rfl rfl (V_assign rfl rfl) ?_
    refine L_nil ?_
    change J _ _ _ _
    refine J_ret ?_
    change Kret _ _ _ Exit.ret _
    refine ret1 rfl rfl (RV_t rfl) ?_
    exact fun w' h => ⟨rfl, h.fr⟩
  ·
    first | (have h1 := h1; rw [decide_eq_true_eq] at h1) | (have h1 := h1; rw [decide_eq_false_iff_not] at h1) | skip
    refine L_wv rfl rfl rfl rfl rfl rfl (V_move rfl rfl) ?_
    refine L_wv rfl rfl rfl rfl rfl rfl (V_len rfl rfl Try.underlying22 rfl) ?_
    refine L_wv rfl rfl rfl rfl rfl rfl (V_gtr rfl rfl rfl (by first | exact decide_eq_true (by omega) | exact decide_eq_false (by omega) | rfl)) ?_
    first | refine L_v rfl rfl rfl (V_pickT rfl rfl rfl) ?_ | refine L_v rfl rfl rfl (V_pickF rfl rfl rfl) ?_
    refine L_nil ?_
    change J _ _ _ _
    refine J_cond rfl (fun h2 => ?_) (fun h2 => ?_)
    ·
      first | (have h2 := h2; rw [decide_eq_true_eq] at h2) | (have h2 := h2; rw [decide_eq_false_iff_not] at h2) | skip
      refine J_seq ?_
      refine J_region ?_
      refine L_v rfl rfl rfl (V_assign rfl rfl) ?_
      refine L_nil ?_
      change J _ _ _ _
      refine J_ret ?_
      change Kret _ _ _ Exit.ret _
      refine ret1 rfl rfl (RV_t rfl) ?_
      exact fun w' h => ⟨rfl, h.fr⟩
    ·
      first | (have h2 := h2; rw [decide_eq_true_eq] at h2) | (have h2 := h2; rw [decide_eq_false_iff_not] at h2) | skip
      refine J_skip ?_
      change J _ _ _ _
      refine J_seq ?_
      refine J_seq ?_
      refine J_region ?_
      refine L_v rfl rfl rfl (V_assign rfl rfl) ?_
      refine L_nil ?_
      change J _ _ _ _
      refine J_block ?_
      refine J_loop (X := Nat × Option Addr × Nat × Nat × List Ver × Mem) (fun x => { env := [(0, .slice x.2.1 x.2.2.1 x.2.2.2.1), (1, .slice a2 n2 c2), (5, .int .i64 (x.1 : Int))], mem := x.2.2.2.2.2 }) (fun x => x.1 ≤ n2 ∧ x.2.2.2.2.1.length = x.2.2.1 ∧ x.2.2.1 ≤ 1048576 ∧ x.2.2.1 ≤ x.2.2.2.1 ∧ ∀ W, OkW { P := Try.prog, w0 := w, nt := Try.f5.ntmps } x.2.2.2.2.2 [] W → SlC 3 W (.slice x.2.1 x.2.2.1 x.2.2.2.1) x.2.2.1 (vcs x.2.2.2.2.1)) (fun x => n2 - x.1) (0, a, n, c, l, []) ⟨Nat.zero_le _, hl, by show n ≤ 1048576; omega, hcn, fun W hW => SlC.later hW rfl hu⟩ ⟨⟨rfl, rfl, rfl, trivial⟩, List.Sublist.refl _, fun f hf => hf, rfl⟩ ?_
      rintro ⟨i, a', n', c', l', m⟩ ⟨hi, hl', hn', hc', hS⟩
      simp only at hi hl' hn' hc' hS ⊢
      refine J_seq ?_
      refine J_seq ?_
      refine J_region ?_
      refine L_v rfl rfl rfl (V_move rfl rfl) ?_
      refine L_v rfl rfl rfl (V_move rfl rfl) ?_
      refine L_v rfl rfl rfl (V_len rfl rfl Try.underlying22 rfl) ?_
      refine L_v rfl rfl rfl (V_lss rfl rfl rfl (by first | exact decide_eq_true (by omega) | exact decide_eq_false (by omega) | rfl)) ?_
      refine L_nil ?_
      change J _ _ _ _
      refine J_cond rfl (fun h3 => ?_) (fun h3 => ?_)
      ·
        first | (have h3 := h3; rw [decide_eq_true_eq] at h3) | (have h3 := h3; rw [decide_eq_false_iff_not] at h3) | skip
        refine J_skip ?_
        change J _ _ _ _
        refine J_seq ?_
        refine J_block ?_
        refine J_seq ?_
        refine J_region ?_
        refine L_v rfl rfl rfl (V_move rfl rfl) ?_
        refine L_callV rfl rfl rfl rfl rfl rfl tx11z (fun w hw => active_w a' n' c' l' w hl' (hS w hw) hn' hc') ?_
        refine L_v rfl rfl rfl (V_move rfl rfl) ?_
        refine L_v rfl rfl rfl (V_extract rfl rfl rfl) ?_
        refine L_v rfl rfl rfl (V_extract rfl rfl rfl) ?_
        refine L_v rfl rfl rfl (V_assign rfl rfl) ?_
        refine L_v rfl rfl rfl (V_assign rfl rfl) ?_
        refine L_nil ?_
        change J _ _ _ _
        refine J_seq ?_
        refine J_region ?_
        refine L_v rfl rfl rfl (V_move rfl rfl) ?_
        refine L_v rfl rfl rfl (V_move rfl rfl) ?_
        refine L_v rfl rfl rfl (V_move rfl rfl) ?_
        refine L_v rfl rfl rfl (V_indexC rfl rfl rfl Try.underlying22 sz33z (fun w hw => SlC.later hw rfl hu2) (by omega) (by omega)) ?_
        refine L_v rfl rfl rfl (V_loadCN (vs := vc (l2.getD i v0)) rfl rfl Try.underlying33 rfl (szd sz33z (by first | rfl | (simp [dg_length, zd_length, *]; done))) (fun w hw => SlC.later hw rfl hu2) (Nat.zero_lt_succ _) (vcs_v (by omega))) ?_
        refine L_callO rfl rfl rfl rfl rfl rfl tx16z (fun w hw => next_w a' n' c' l' w hl' (hS w hw) hn' hc' (l2.getD i v0)) (fun q1 hq1 => ?_)
        refine L_v rfl rfl rfl (V_move rfl rfl) ?_
        refine L_v rfl rfl rfl (V_extract rfl rfl rfl) ?_
        refine L_v rfl rfl rfl (V_extract rfl rfl rfl) ?_
        refine L_v rfl rfl rfl (V_assign rfl rfl) ?_
        refine L_v rfl rfl rfl (V_assign rfl rfl) ?_
        refine L_nil ?_
        change J _ _ _ _
        refine J_seq ?_
        refine J_seq ?_
        refine J_region ?_
        refine L_v rfl rfl rfl (V_move rfl rfl) ?_
        refine L_v rfl rfl rfl (V_neq rfl rfl rfl (by first | exact decide_eq_true (by omega) | exact decide_eq_false (by omega) | rfl)) ?_
        refine L_nil ?_
        change J _ _ _ _
        refine J_cond rfl (fun h4 => ?_) (fun h4 => ?_)
        ·
          first | (have h4 := h4; rw [decide_eq_true_eq] at h4) | (have h4 := h4; rw [decide_eq_false_iff_not] at h4) | skip
          have hz : (nextL l' (l2.getD i v0)).length = 0 := by rw [nextL_no h4]; rfl
          refine J_seq ?_
          refine J_region ?_
          refine L_v rfl rfl rfl (V_move rfl rfl) ?_
          refine L_callV rfl rfl rfl rfl rfl rfl tx11z (fun w hw => active_w a' n' c' l' w hl' (hS w (hw.sub (List.sublist_append_left _ _) (fun f hf => hf))) hn' hc') ?_
          refine L_v rfl rfl rfl (V_move rfl rfl) ?_
          refine L_v rfl rfl rfl (V_extract rfl rfl rfl) ?_
          refine L_v rfl rfl rfl (V_extract rfl rfl rfl) ?_
          refine L_v rfl rfl rfl (V_assign rfl rfl) ?_
          refine L_v rfl rfl rfl (V_assign rfl rfl) ?_
          refine L_nil ?_
          change J _ _ _ _
          refine J_seq ?_
          refine J_seq ?_
          refine J_region ?_
          refine L_v rfl rfl rfl (V_move rfl rfl) ?_
          refine L_v rfl rfl rfl (V_move rfl rfl) ?_
          refine L_v rfl rfl rfl (V_neS rfl rfl rfl (by first | exact decide_eq_false (fun hne => hne rfl) | exact decide_eq_false (fun hne => hne (by rw [hnl, keys_key h0])))) ?_
          refine L_v rfl rfl rfl (V_move rfl rfl) ?_
          refine L_wv rfl rfl rfl rfl rfl rfl (V_move rfl rfl) ?_
          refine L_wv rfl rfl rfl rfl rfl rfl (V_move rfl rfl) ?_
          refine L_wv rfl rfl rfl rfl rfl rfl (V_neB rfl rfl rfl Try.underlying4 (by first | exact bneF (keys_had h0) | exact bneF (by rw [hnl]; exact keys_ok h0) | exact bneF rfl)) ?_
          first | refine L_v rfl rfl rfl (V_pickT rfl rfl rfl) ?_ | refine L_v rfl rfl rfl (V_pickF rfl rfl rfl) ?_
          refine L_v rfl rfl rfl (V_move rfl rfl) ?_
          refine L_wv rfl rfl rfl rfl rfl rfl (V_move rfl rfl) ?_
          refine L_wv rfl rfl rfl rfl rfl rfl (V_len rfl rfl Try.underlying22 rfl) ?_
          refine L_wv rfl rfl rfl rfl rfl rfl (V_gtr rfl rfl rfl (by first | exact decide_eq_true (by omega) | exact decide_eq_false (by omega) | rfl)) ?_
          first | refine L_v rfl rfl rfl (V_pickT rfl rfl rfl) ?_ | refine L_v rfl rfl rfl (V_pickF rfl rfl rfl) ?_
          refine L_nil ?_
          change J _ _ _ _
          refine J_false rfl ?_
          refine J_skip ?_
          change J _ _ _ _
          refine J_exit ?_
          change J _ _ _ _
          refine J_region ?_
          refine L_v rfl rfl rfl (V_move rfl rfl) ?_
          refine L_v rfl rfl rfl (V_add rfl rfl rfl (by first | exact Go.IntWalk.i64_in _ (by omega) | rfl)) ?_
          refine L_v rfl rfl rfl (V_assign rfl rfl) ?_
          refine L_nil ?_
          exact ⟨(i + 1, a', n', c', l', m), ⟨by show i + 1 ≤ n2; omega, hl', hn', hc', hS⟩, by show n2 - (i + 1) < n2 - i; omega, ⟨rfl, rfl, rfl, trivial⟩, List.sublist_append_left _ _, fun f hf => hf, rfl⟩
        ·
          first | (have h4 := h4; rw [decide_eq_true_eq] at h4) | (have h4 := h4; rw [decide_eq_false_iff_not] at h4) | skip
          have h0 : nextE l' (l2.getD i v0) = 0 := by omega
          have hnl := nextL_ok h0
          have hsz := (nextE_ok h0).2.2.2.2
          have hk : (nextL l' (l2.getD i v0)).length = n' + 1 := by rw [hnl, List.length_append, hl']; rfl
          refine J_skip ?_
          change J _ _ _ _
          refine J_seq ?_
          refine J_region ?_
          refine L_v rfl rfl rfl (V_move rfl rfl) ?_
          refine L_callV rfl rfl rfl rfl rfl rfl tx11z (fun w hw => active_w (oA q1) (nextL l' (l2.getD i v0)).length (oC q1) (nextL l' (l2.getD i v0)) w rfl (SlC.ofM hw (fun p hp => by first | exact hp | exact List.mem_append_right _ hp | exact List.mem_append_left _ hp | exact List.mem_append_left _ (List.mem_append_right _ hp) | exact List.mem_append_left _ (List.mem_append_left _ hp) | exact List.mem_append_left _ (List.mem_append_left _ (List.mem_append_right _ hp)) | exact List.mem_append_left _ (List.mem_append_left _ (List.mem_append_left _ hp))) hq1) (by omega) hq1.le) ?_
          refine L_v rfl rfl rfl (V_move rfl rfl) ?_
          refine L_v rfl rfl rfl (V_extract rfl rfl rfl) ?_
          refine L_v rfl rfl rfl (V_extract rfl rfl rfl) ?_
          refine L_v rfl rfl rfl (V_assign rfl rfl) ?_
          refine L_v rfl rfl rfl (V_assign rfl rfl) ?_
          refine L_nil ?_
          change J _ _ _ _
          refine J_seq ?_
          refine J_seq ?_
          refine J_region ?_
          refine L_v rfl rfl rfl (V_move rfl rfl) ?_
          refine L_v rfl rfl rfl (V_move rfl rfl) ?_
          refine L_v rfl rfl rfl (V_move rfl rfl) ?_
          refine L_v rfl rfl rfl (V_indexC rfl rfl rfl Try.underlying22 sz33z (fun w hw => SlC.later hw rfl hu2) (by omega) (by omega)) ?_
          refine L_v rfl rfl rfl (V_fieldC rfl rfl (fun w hw => (let ⟨b, o, e, _⟩ := SlC.cell (SlC.later hw rfl hu2) (vcs_e (l := l2) (i := i) (by omega)); ⟨b, o, e⟩)) Try.underlying33 rfl sz31z rfl) ?_
          refine L_v rfl rfl rfl (V_loadC rfl rfl Try.underlying31 rfl (fun w hw => SlC.later hw rfl hu2) (vcs_k (by omega))) ?_
          refine L_v rfl rfl rfl (V_neq rfl rfl rfl (by first | exact decide_eq_true (by omega) | exact decide_eq_false (by omega) | rfl)) ?_
          refine L_v rfl rfl rfl (V_neB rfl rfl rfl Try.underlying4 (by first | exact bneF (keys_had h0) | exact bneF (by rw [hnl]; exact keys_ok h0) | exact bneF rfl)) ?_
          refine L_v rfl rfl rfl (V_move rfl rfl) ?_
          refine L_wv rfl rfl rfl rfl rfl rfl (V_move rfl rfl) ?_
          refine L_wv rfl rfl rfl rfl rfl rfl (V_move rfl rfl) ?_
          refine L_wv rfl rfl rfl rfl rfl rfl (V_move rfl rfl) ?_
          refine L_wv rfl rfl rfl rfl rfl rfl (V_indexC rfl rfl rfl Try.underlying22 sz33z (fun w hw => SlC.later hw rfl hu2) (by omega) (by omega)) ?_
          refine L_wv rfl rfl rfl rfl rfl rfl (V_fieldC rfl rfl (fun w hw => (let ⟨b, o, e, _⟩ := SlC.cell (SlC.later hw rfl hu2) (vcs_e (l := l2) (i := i) (by omega)); ⟨b, o, e⟩)) Try.underlying33 rfl sz31z rfl) ?_
          refine L_wv rfl rfl rfl rfl rfl rfl (V_loadC rfl rfl Try.underlying31 rfl (fun w hw => SlC.later hw rfl hu2) (vcs_k (by omega))) ?_
          refine L_wv rfl rfl rfl rfl rfl rfl (V_neq rfl rfl rfl (by first | exact decide_eq_true (by omega) | exact decide_eq_false (by omega) | rfl)) ?_
          refine L_wv rfl rfl rfl rfl rfl rfl (V_neB rfl rfl rfl Try.underlying4 (by first | exact bneF (keys_had h0) | exact bneF (by rw [hnl]; exact keys_ok h0) | exact bneF rfl)) ?_
          first | refine L_v rfl rfl rfl (V_pickT rfl rfl rfl) ?_ | refine L_v rfl rfl rfl (V_pickF rfl rfl rfl) ?_
          refine L_v rfl rfl rfl (V_move rfl rfl) ?_
          refine L_wv rfl rfl rfl rfl rfl rfl (V_move rfl rfl) ?_
          refine L_wv rfl rfl rfl rfl rfl rfl (V_move rfl rfl) ?_
          refine L_wv rfl rfl rfl rfl rfl rfl (V_move rfl rfl) ?_
          refine L_wv rfl rfl rfl rfl rfl rfl (V_indexC rfl rfl rfl Try.underlying22 sz33z (fun w hw => SlC.later hw rfl hu2) (by omega) (by omega)) ?_
          refine L_wv rfl rfl rfl rfl rfl rfl (V_fieldC rfl rfl (fun w hw => (let ⟨b, o, e, _⟩ := SlC.cell (SlC.later hw rfl hu2) (vcs_e (l := l2) (i := i) (by omega)); ⟨b, o, e⟩)) Try.underlying33 rfl sz9z rfl) ?_
          refine L_wv rfl rfl rfl rfl rfl rfl (V_loadC rfl rfl Try.underlying9 rfl (fun w hw => SlC.later hw rfl hu2) (vcs_s (by omega))) ?_
          refine L_wv rfl rfl rfl rfl rfl rfl (V_neS rfl rfl rfl (by first | exact decide_eq_false (fun hne => hne rfl) | exact decide_eq_false (fun hne => hne (by rw [hnl, keys_key h0])))) ?_
          first | refine L_v rfl rfl rfl (V_pickT rfl rfl rfl) ?_ | refine L_v rfl rfl rfl (V_pickF rfl rfl rfl) ?_
          refine L_nil ?_
          change J _ _ _ _
          refine J_false rfl ?_
          refine J_skip ?_
          change J _ _ _ _
          refine J_region ?_
          refine L_v rfl rfl rfl (V_move rfl rfl) ?_
          refine L_v rfl rfl rfl (V_assign rfl rfl) ?_
          refine L_nil ?_
          change J _ _ _ _
          refine J_region ?_
          refine L_v rfl rfl rfl (V_move rfl rfl) ?_
          refine L_v rfl rfl rfl (V_add rfl rfl rfl (by first | exact Go.IntWalk.i64_in _ (by omega) | rfl)) ?_
          refine L_v rfl rfl rfl (V_assign rfl rfl) ?_
          refine L_nil ?_
          exact ⟨(i + 1, oA q1, (nextL l' (l2.getD i v0)).length, oC q1, (nextL l' (l2.getD i v0)), m ++ ownM 33 q1 (vcs (nextL l' (l2.getD i v0)))), ⟨by show i + 1 ≤ n2; omega, rfl, by show (nextL l' (l2.getD i v0)).length ≤ 1048576; omega, hq1.le, fun W hW => SlC.ofM hW (fun p hp => List.mem_append_right _ hp) hq1⟩, by show n2 - (i + 1) < n2 - i; omega, ⟨rfl, rfl, rfl, trivial⟩, List.Sublist.refl _, fun f hf => hf, rfl⟩
      ·
        first | (have h3 := h3; rw [decide_eq_true_eq] at h3) | (have h3 := h3; rw [decide_eq_false_iff_not] at h3) | skip
        refine J_exit ?_
        change J _ _ _ _
        refine J_seq ?_
        refine J_region ?_
        refine L_callV rfl rfl rfl rfl rfl rfl tx13z (fun w _ => histories_w w) ?_
        refine L_v rfl rfl rfl (V_move rfl rfl) ?_
        refine L_wcallV rfl rfl rfl rfl rfl rfl rfl rfl rfl tx18z (fun w _ => nexts_w w) ?_
        first | refine L_v rfl rfl rfl (V_pickT rfl rfl rfl) ?_ | refine L_v rfl rfl rfl (V_pickF rfl rfl rfl) ?_
        refine L_v rfl rfl rfl (V_assign rfl rfl) ?_
        refine L_nil ?_
        change J _ _ _ _
        refine J_ret ?_
        change Kret _ _ _ Exit.ret _
        refine ret1 rfl rfl (RV_t rfl) ?_
        exact fun w' h => ⟨rfl, h.fr⟩

theorem VersionKeys_w (u : Value) (n : Nat) (l : List Ver) (u2 : Value) (n2 : Nat) (l2 : List Ver) (w : World) (hl : l.length = n) (hl2 : l2.length = n2) (hv : SlC 3 w u n (vcs l)) (hv2 : SlC 3 w u2 n2 (vcs l2)) (hq : ∀ a n c, u = .slice a n c → n ≤ c) (hq2 : ∀ a n c, u2 = .slice a n c → n ≤ c) :
    Calls Try.prog 5 #[u, u2] w fun e w' => e = .returned (.bool true) ∧ Fr [] w w' := by
  obtain ⟨a, c, rfl⟩ := hv.form
  obtain ⟨a2, c2, rfl⟩ := hv2.form
  exact VersionKeys_in a n c l w hl hv (hq _ _ _ rfl) a2 n2 c2 l2 hl2 hv2
end Go.Proofs.Ythafhiemecfjiaa
