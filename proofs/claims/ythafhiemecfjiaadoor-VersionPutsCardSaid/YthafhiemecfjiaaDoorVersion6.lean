/- What the functions of layer 7 that read a history come to, and what the statements try. -/
import Derived.Test.YthafhiemecfjiaaDoorVersion5
set_option linter.unusedVariables false
set_option linter.unusedSimpArgs false
set_option maxRecDepth 100000
namespace Go.Proofs.YthafhiemecfjiaaDoor
open Go.Sx
theorem bsl1a (w : World) : (Instr.buildSlice 23 1 [(0, .int .u8 1)].toArray).run Tryd.prog w = .ok (.slice (some ⟨w.heap.size, 0, none⟩) 1 1) (w.alloc (row 5 (dg [1]))) := by kernel_rfl
theorem put1 : putB [pP] = [1, 1, 1, 1, 107] := by decide +kernel
theorem get1 : getV [1, 1, 1, 1, 107] = some [pP] := by rw [← put1]; exact getV_put (by kernel_rfl)
theorem get2 : getV [1] = none := by
  cases h : getV [1] with
  | none => rfl
  | some l =>
    have hb : Byt [1] := by intro x hx; simp at hx; omega
    have := (getV_back hb h).2
    have h1 : l.length ≤ 16 := isH_len (getV_back hb h).1
    have h2 := congrArg List.length this
    unfold putB at h2 this
    have h3 := grp_len l.length
    rw [List.length_append, List.length_singleton] at h2
    have h4 : encL l = [] := List.eq_nil_of_length_eq_zero (by omega)
    cases l with
    | nil => exact absurd this (by decide)
    | cons v l =>
      have h5 := grp_len v.1
      have e : encL (v :: l) = encV v ++ encL l := by simp [encL]
      rw [e] at h4
      have h6 := congrArg List.length h4
      unfold encV at h6
      simp only [List.length_append, List.length_nil] at h6
      omega
theorem rc_nat {b : List Int} (hb : Byt b) : ∃ N : Nat, (rc b).1 = N := by
  rcases rc_ok hb with ⟨_, h, _⟩ | ⟨_, h, _⟩
  · exact ⟨(rc b).1.toNat, (Int.toNat_of_nonneg h).symm⟩
  · exact ⟨0, h⟩
theorem retG {w w' : World} {e : Ending} {b : List Int} (h : getV b = none) (he : e = .returned (.tuple #[.slice none 0 0, .int .i64 50])) (hf : Fr [] w w') : RetO 44 3 w (vcs ((getV b).getD [])) ((getV b).getD []).length (fun s => .tuple #[s, .int .i64 (if (getV b).isSome then 0 else 50)]) e w' := by
  rw [h]
  exact ⟨none, he, ⟨rfl, rfl⟩, hf, fun b o hb => by simp [ownM] at hb⟩
theorem retR {w w' : World} {e : Ending} {b : List Int} (h : readV b = ([], 0, false)) (he : e = .returned (.tuple #[.slice none 0 0, .int .i64 0, .bool false])) (hf : Fr [] w w') : RetO 44 3 w (vcs (readV b).1) (readV b).1.length (fun s => .tuple #[s, .int .i64 (readV b).2.1, .bool (readV b).2.2]) e w' := by
  rw [h]
  exact ⟨none, he, ⟨rfl, rfl⟩, hf, fun b o hb => by simp [ownM] at hb⟩
theorem tx4b : Txt Tryd.prog 4 := txt_of Tryd.func4 rfl (by kernel_rfl)
theorem tx8b : Txt Tryd.prog 8 := txt_of Tryd.func8 rfl (by kernel_rfl)
theorem tx11b : Txt Tryd.prog 11 := txt_of Tryd.func11 rfl (by kernel_rfl)
theorem tx16b : Txt Tryd.prog 16 := txt_of Tryd.func16 rfl (by kernel_rfl)
theorem tx17b : Txt Tryd.prog 17 := txt_of Tryd.func17 rfl (by kernel_rfl)
theorem tx18b : Txt Tryd.prog 18 := txt_of Tryd.func18 rfl (by kernel_rfl)
theorem tx19b : Txt Tryd.prog 19 := txt_of Tryd.func19 rfl (by kernel_rfl)
theorem tx20b : Txt Tryd.prog 20 := txt_of Tryd.func20 rfl (by kernel_rfl)

theorem get_w (a : Option Addr) (n c : Nat) (b : List Int) (w : World) (hu : SlB w (.slice a n c) b) (hby : Byt b) (hcn : n ≤ c) (hn : n ≤ 1048576) :
    Calls Tryd.prog 8 #[.slice a n c] w fun e w' => RetO 44 3 w (vcs ((getV b).getD [])) ((getV b).getD []).length (fun s => .tuple #[s, .int .i64 (if (getV b).isSome then 0 else 50)]) e w' := by
  have hl := hu.size
  refine calls_of (args := [.slice a n c]) ([]) ([]) ([]) Tryd.func8 rfl rfl (okW0 _ _ _ _) ?_
  refine J_seq ?_
  refine J_region ?_
  refine L_v rfl rfl rfl (V_assign rfl rfl) ?_
  refine L_v rfl rfl rfl (V_assign rfl rfl) ?_
  refine L_nil ?_
  change J _ _ _ _
  refine J_seq ?_
  refine J_region ?_
  refine L_v rfl rfl rfl (V_move rfl rfl) ?_
  refine L_call rfl rfl rfl rfl tx17b (fun w hw => (new_w a n c w).mono ?_)
  rintro e w' ⟨b0, rfl, hfr0, hsz0, hb0⟩
  refine ⟨_, _, _, rfl, hw.add hfr0 hb0 hsz0, rfl, ?_⟩
  refine L_v rfl rfl rfl (V_assign rfl rfl) ?_
  refine L_nil ?_
  change J _ _ _ _
  refine J_seq ?_
  refine J_region ?_
  refine L_v rfl rfl rfl (V_move rfl rfl) ?_
  refine L_callR 0 rfl rfl rfl rfl rfl rfl tx18b rfl (fun w hw => rcount_w b0 a n c b w (hw.at (i := 0) rfl) (SlB.later hw rfl hu) hby hcn (by omega)) (fun a1 n1 c1 hc1 hs1 => ?_)
  have hz1 := (hs1 _ hu).size
  rw [List.length_drop] at hz1
  refine L_v rfl rfl rfl (V_move rfl rfl) ?_
  refine L_v rfl rfl rfl (V_extract rfl rfl rfl) ?_
  refine L_v rfl rfl rfl (V_extract rfl rfl rfl) ?_
  refine L_v rfl rfl rfl (V_assign rfl rfl) ?_
  refine L_v rfl rfl rfl (V_assign rfl rfl) ?_
  refine L_nil ?_
  change J _ _ _ _
  refine J_seq ?_
  refine J_seq ?_
  refine J_region ?_
  refine L_v rfl rfl rfl (V_move rfl rfl) ?_
  refine L_v rfl rfl rfl (V_neq rfl rfl rfl (by first | exact decide_eq_true (by omega) | exact decide_eq_false (by omega) | rfl)) ?_
  refine L_v rfl rfl rfl (V_move rfl rfl) ?_
  refine L_split 23 rfl (fun h1 => ?_) (fun h1 => ?_)
  ·
    first | (have h1 := h1; rw [decide_eq_true_eq] at h1) | (have h1 := h1; rw [decide_eq_false_iff_not] at h1) | skip
    refine L_skip rfl rfl rfl rfl rfl rfl rfl ?_
    refine L_skip rfl rfl rfl rfl rfl rfl rfl ?_
    first | refine L_v rfl rfl rfl (V_pickT rfl rfl rfl) ?_ | refine L_v rfl rfl rfl (V_pickF rfl rfl rfl) ?_
    refine L_nil ?_
    change J _ _ _ _
    refine J_true rfl ?_
    refine J_seq ?_
    refine J_region ?_
    refine L_v rfl rfl rfl (V_assign rfl rfl) ?_
    refine L_v rfl rfl rfl (V_assign rfl rfl) ?_
    refine L_nil ?_
    change J _ _ _ _
    refine J_ret ?_
    change Kret _ _ _ Exit.ret _
    refine ret2 rfl rfl (RV_t rfl) (RV_t rfl) ?_
    exact fun w' h => retG (getV_form (.inl h1)) rfl h.fr
  ·
    first | (have h1 := h1; rw [decide_eq_true_eq] at h1) | (have h1 := h1; rw [decide_eq_false_iff_not] at h1) | skip
    have h1 : (rc b).2.2 = 0 := Classical.not_not.1 h1
    refine L_wv rfl rfl rfl rfl rfl rfl (V_move rfl rfl) ?_
    refine L_wv rfl rfl rfl rfl rfl rfl (V_gtr rfl rfl rfl (by first | exact decide_eq_true (by omega) | exact decide_eq_false (by omega) | rfl)) ?_
    first | refine L_v rfl rfl rfl (V_pickT rfl rfl rfl) ?_ | refine L_v rfl rfl rfl (V_pickF rfl rfl rfl) ?_
    refine L_nil ?_
    change J _ _ _ _
    refine J_cond rfl (fun h2 => ?_) (fun h2 => ?_)
    ·
      first | (have h2 := h2; rw [decide_eq_true_eq] at h2) | (have h2 := h2; rw [decide_eq_false_iff_not] at h2) | skip
      refine J_seq ?_
      refine J_region ?_
      refine L_v rfl rfl rfl (V_assign rfl rfl) ?_
      refine L_v rfl rfl rfl (V_assign rfl rfl) ?_
      refine L_nil ?_
      change J _ _ _ _
      refine J_ret ?_
      change Kret _ _ _ Exit.ret _
      refine ret2 rfl rfl (RV_t rfl) (RV_t rfl) ?_
      exact fun w' h => retG (getV_form (.inr (by omega))) rfl h.fr
    ·
      first | (have h2 := h2; rw [decide_eq_true_eq] at h2) | (have h2 := h2; rw [decide_eq_false_iff_not] at h2) | skip
      obtain ⟨N, hN⟩ := rc_nat hby
      refine J_skip ?_
      change J _ _ _ _
      refine J_seq ?_
      refine J_region ?_
      refine L_v rfl rfl rfl (V_assign rfl rfl) ?_
      refine L_nil ?_
      change J _ _ _ _
      refine J_seq ?_
      refine J_seq ?_
      refine J_region ?_
      refine L_v rfl rfl rfl (V_move rfl rfl) ?_
      refine L_v rfl rfl rfl (V_move rfl rfl) ?_
      refine L_nil ?_
      change J _ _ _ _
      refine J_block ?_
      refine J_loop (X := Nat × Option Addr × Nat × Nat × List Int × List Ver × OwnR) (fun x => { env := [(4, .pointer (some ⟨b0, 0, none⟩)), (7, ownV x.2.2.2.2.2.2 x.1), (27, .int .i64 (rc b).1), (28, .int .i64 (x.1 : Int))], mem := (b0, row 66 [.slice x.2.1 x.2.2.1 x.2.2.2.1]) :: ownM 44 x.2.2.2.2.2.2 (vcs x.2.2.2.2.2.1) }) (fun x => x.1 ≤ N ∧ x.2.2.2.2.2.1.length = x.1 ∧ OwnC 3 x.2.2.2.2.2.2 x.1 (vcs x.2.2.2.2.2.1) ∧ x.2.2.1 ≤ x.2.2.2.1 ∧ Byt x.2.2.2.2.1 ∧ x.2.2.2.2.1.length ≤ n ∧ (∀ W, SlB W (.slice a n c) b → SlB W (.slice x.2.1 x.2.2.1 x.2.2.2.1) x.2.2.2.2.1) ∧ rvN N (b.drop (rc b).2.1.toNat) [] = rvN (N - x.1) x.2.2.2.2.1 x.2.2.2.2.2.1) (fun x => N - x.1) (0, a1, n1, c1, b.drop (rc b).2.1.toNat, [], none) ⟨Nat.zero_le _, rfl, ⟨rfl, rfl⟩, hc1, hby.drop _, by show List.length (List.drop _ _) ≤ n; rw [List.length_drop]; omega, hs1, rfl⟩ ⟨⟨rfl, rfl, rfl, rfl, trivial⟩, List.Sublist.refl _, fun f hf => hf, rfl⟩ ?_
      rintro ⟨i, a', n', c', d, acc, q⟩ ⟨hi, hl', hq, hc', hbd, hdl, hS, hrv⟩
      simp only at hi hl' hq hc' hbd hdl hS hrv ⊢
      have hz := (hS _ hu).size
      refine J_seq ?_
      refine J_region ?_
      refine L_v rfl rfl rfl (V_lss rfl rfl rfl (by first | exact decide_eq_true (by omega) | exact decide_eq_false (by omega) | rfl)) ?_
      refine L_nil ?_
      change J _ _ _ _
      refine J_seq ?_
      refine J_cond rfl (fun h3 => ?_) (fun h3 => ?_)
      ·
        first | (have h3 := h3; rw [decide_eq_true_eq] at h3) | (have h3 := h3; rw [decide_eq_false_iff_not] at h3) | skip
        refine J_skip ?_
        change J _ _ _ _
        refine J_seq ?_
        refine J_block ?_
        refine J_seq ?_
        refine J_region ?_
        refine L_v rfl rfl rfl (V_move rfl rfl) ?_
        refine L_callR 0 rfl rfl rfl rfl rfl rfl tx18b rfl (fun w hw => rcount_w b0 a' n' c' d w (hw.at (i := 0) rfl) (hS w (SlB.later hw rfl hu)) hbd hc' (by omega)) (fun a3 n3 c3 hc3 hs3 => ?_)
        have hz3 := (hs3 _ (hS _ hu)).size
        rw [List.length_drop] at hz3
        refine L_v rfl rfl rfl (V_move rfl rfl) ?_
        refine L_v rfl rfl rfl (V_extract rfl rfl rfl) ?_
        refine L_v rfl rfl rfl (V_extract rfl rfl rfl) ?_
        refine L_v rfl rfl rfl (V_assign rfl rfl) ?_
        refine L_v rfl rfl rfl (V_assign rfl rfl) ?_
        refine L_nil ?_
        change J _ _ _ _
        refine J_seq ?_
        refine J_region ?_
        refine L_v rfl rfl rfl (V_move rfl rfl) ?_
        refine L_callR 0 rfl rfl rfl rfl rfl rfl tx18b rfl (fun w hw => rcount_w b0 a3 n3 c3 (d.drop (rc d).2.1.toNat) w (hw.at (i := 0) rfl) (hs3 w (hS w (SlB.later hw rfl hu))) (hbd.drop _) hc3 (by omega)) (fun a4 n4 c4 hc4 hs4 => ?_)
        have hz4 := (hs4 _ (hs3 _ (hS _ hu))).size
        rw [List.length_drop, List.length_drop] at hz4
        refine L_v rfl rfl rfl (V_move rfl rfl) ?_
        refine L_v rfl rfl rfl (V_extract rfl rfl rfl) ?_
        refine L_v rfl rfl rfl (V_extract rfl rfl rfl) ?_
        refine L_v rfl rfl rfl (V_assign rfl rfl) ?_
        refine L_v rfl rfl rfl (V_assign rfl rfl) ?_
        refine L_nil ?_
        change J _ _ _ _
        refine J_seq ?_
        refine J_region ?_
        refine L_v rfl rfl rfl (V_move rfl rfl) ?_
        refine L_callR 0 rfl rfl rfl rfl rfl rfl tx19b rfl (fun w hw => rbytes_w b0 a4 n4 c4 ((d.drop (rc d).2.1.toNat).drop (rc (d.drop (rc d).2.1.toNat)).2.1.toNat) w (hw.at (i := 0) rfl) (hs4 w (hs3 w (hS w (SlB.later hw rfl hu)))) ((hbd.drop _).drop _) hc4 (by omega)) (fun a5 n5 c5 hc5 hs5 => ?_)
        have hz5 := (hs5 _ (hs4 _ (hs3 _ (hS _ hu)))).size
        rw [List.length_drop, List.length_drop, List.length_drop] at hz5
        refine L_v rfl rfl rfl (V_move rfl rfl) ?_
        refine L_v rfl rfl rfl (V_extract rfl rfl rfl) ?_
        refine L_v rfl rfl rfl (V_extract rfl rfl rfl) ?_
        refine L_v rfl rfl rfl (V_assign rfl rfl) ?_
        refine L_v rfl rfl rfl (V_assign rfl rfl) ?_
        refine L_nil ?_
        change J _ _ _ _
        refine J_seq ?_
        refine J_seq ?_
        refine J_region ?_
        refine L_v rfl rfl rfl (V_move rfl rfl) ?_
        refine L_v rfl rfl rfl (V_neq rfl rfl rfl (by first | exact decide_eq_true (by omega) | exact decide_eq_false (by omega) | rfl)) ?_
        refine L_nil ?_
        change J _ _ _ _
        refine J_cond rfl (fun h4 => ?_) (fun h4 => ?_)
        ·
          first | (have h4 := h4; rw [decide_eq_true_eq] at h4) | (have h4 := h4; rw [decide_eq_false_iff_not] at h4) | skip
          refine J_seq ?_
          refine J_region ?_
          refine L_v rfl rfl rfl (V_assign rfl rfl) ?_
          refine L_v rfl rfl rfl (V_assign rfl rfl) ?_
          refine L_nil ?_
          change J _ _ _ _
          refine J_ret ?_
          change Kret _ _ _ Exit.ret _
          refine ret2 rfl rfl (RV_t rfl) (RV_t rfl) ?_
          exact fun w' h => retG (by rw [getV_N h1 hN (by omega), hrv, show N - i = (N - i - 1) + 1 by omega, rvN_no (show (rv1 d).2.2 = false from decide_eq_false h4)]) rfl h.fr
        ·
          first | (have h4 := h4; rw [decide_eq_true_eq] at h4) | (have h4 := h4; rw [decide_eq_false_iff_not] at h4) | skip
          have h4 : (rb ((d.drop (rc d).2.1.toNat).drop (rc (d.drop (rc d).2.1.toNat)).2.1.toNat)).2.2 = 0 := Classical.not_not.1 h4
          have ht : (rv1 d).2.2 = true := decide_eq_true h4
          refine J_skip ?_
          change J _ _ _ _
          refine J_region ?_
          refine L_v rfl rfl rfl (V_move rfl rfl) ?_
          refine L_v rfl rfl rfl (V_move rfl rfl) ?_
          refine L_v rfl rfl rfl (V_move rfl rfl) ?_
          refine L_v rfl rfl rfl (V_move rfl rfl) ?_
          refine L_v rfl rfl rfl (V_build (vs := [(0, .int .i64 (rc d).1), (1, .int .i64 (rc (d.drop (rc d).2.1.toNat)).1), (2, .string (ba (rb ((d.drop (rc d).2.1.toNat).drop (rc (d.drop (rc d).2.1.toNat)).2.1.toNat)).1))]) rfl rfl (bdV3 _ _ _)) ?_
          refine L_buildSlice (vs := [(0, .agg (vc ((rc d).1, (rc (d.drop (rc d).2.1.toNat)).1, ba (rb ((d.drop (rc d).2.1.toNat).drop (rc (d.drop (rc d).2.1.toNat)).2.1.toNat)).1)).toArray)]) (l := vc ((rc d).1, (rc (d.drop (rc d).2.1.toNat)).1, ba (rb ((d.drop (rc d).2.1.toNat).drop (rc (d.drop (rc d).2.1.toNat)).2.1.toNat)).1)) rfl rfl rfl rfl rfl (bsV _) (fun b1 => ?_)
          refine L_appN [(b0, row 66 [.slice a5 n5 c5])] [(b1, row 44 (vc ((rc d).1, (rc (d.drop (rc d).2.1.toNat)).1, ba (rb ((d.drop (rc d).2.1.toNat).drop (rc (d.drop (rc d).2.1.toNat)).2.1.toNat)).1)))] q (vcs acc) (n := i) (m := 1) (n' := i + 1) (ks' := (vcs (acc ++ [((rc d).1, (rc (d.drop (rc d).2.1.toNat)).1, ba (rb ((d.drop (rc d).2.1.toNat).drop (rc (d.drop (rc d).2.1.toNat)).2.1.toNat)).1)]))) rfl rfl rfl rfl rfl Tryd.underlying22 elv rfl hq (fun w hw => SlC.src Tryd.underlying22 (SlC.in hw (ks := vc ((rc d).1, (rc (d.drop (rc d).2.1.toNat)).1, ba (rb ((d.drop (rc d).2.1.toNat).drop (rc (d.drop (rc d).2.1.toNat)).2.1.toNat)).1)) (r := []) (fz := (0, 0)) (List.mem_append_right _ (List.mem_singleton.2 rfl)) rfl 1) (vc_one _)) rfl (by rw [vcs_app, vcs_one]) (by omega) (by omega) (fun q' hq' => ?_)
          refine L_v rfl rfl rfl (V_assign rfl rfl) ?_
          refine L_nil ?_
          change J _ _ _ _
          refine J_region ?_
          refine L_v rfl rfl rfl (V_add rfl rfl rfl (by first | exact Go.IntWalk.i64_in _ (by omega) | rfl)) ?_
          refine L_v rfl rfl rfl (V_move rfl rfl) ?_
          refine L_nil ?_
          exact ⟨(i + 1, a5, n5, c5, (rv1 d).2.1, acc ++ [(rv1 d).1], q'), ⟨by show i + 1 ≤ N; omega, by show (acc ++ [_]).length = i + 1; rw [List.length_append, hl']; rfl, hq', hc5, rv1_byt hbd, by show List.length (rv1 d).2.1 ≤ n; show List.length (List.drop _ _) ≤ n; rw [List.length_drop, List.length_drop, List.length_drop]; omega, fun W hW => hs5 W (hs4 W (hs3 W (hS W hW))), by show _ = rvN (N - (i + 1)) (rv1 d).2.1 (acc ++ [(rv1 d).1]); rw [hrv, show N - i = (N - (i + 1)) + 1 by omega, rvN_go ht]⟩, by show N - (i + 1) < N - i; omega, ⟨rfl, rfl, rfl, rfl, trivial⟩, List.Sublist.cons_cons _ (List.sublist_append_left _ _), fun f hf => hf, rfl⟩
      ·
        first | (have h3 := h3; rw [decide_eq_true_eq] at h3) | (have h3 := h3; rw [decide_eq_false_iff_not] at h3) | skip
        obtain rfl : i = N := by omega
        rw [Nat.sub_self] at hrv
        have hgv : getV b = match (some (acc, d) : Option (List Ver × List Int)) with | some (l, []) => if isH l = true then some l else none | _ => none := by rw [getV_N h1 hN (by omega), hrv]; rfl
        refine J_exit ?_
        change J _ _ _ _
        refine J_seq ?_
        refine J_seq ?_
        refine J_region ?_
        refine L_v rfl rfl rfl (V_move rfl rfl) ?_
        refine L_callV rfl rfl rfl rfl rfl rfl tx20b (fun w hw => left_w b0 a' n' c' w (hw.at (i := 0) rfl)) ?_
        refine L_v rfl rfl rfl (V_gtr rfl rfl rfl (by first | exact decide_eq_true (by omega) | exact decide_eq_false (by omega) | rfl)) ?_
        refine L_v rfl rfl rfl (V_move rfl rfl) ?_
        refine L_split 58 rfl (fun h4 => ?_) (fun h4 => ?_)
        ·
          first | (have h4 := h4; rw [decide_eq_true_eq] at h4) | (have h4 := h4; rw [decide_eq_false_iff_not] at h4) | skip
          refine L_skip rfl rfl rfl rfl rfl rfl rfl ?_
          refine L_skip rfl rfl rfl rfl rfl rfl rfl ?_
          refine L_skip rfl rfl rfl rfl rfl rfl rfl ?_
          first | refine L_v rfl rfl rfl (V_pickT rfl rfl rfl) ?_ | refine L_v rfl rfl rfl (V_pickF rfl rfl rfl) ?_
          refine L_nil ?_
          change J _ _ _ _
          refine J_true rfl ?_
          refine J_seq ?_
          refine J_region ?_
          refine L_v rfl rfl rfl (V_assign rfl rfl) ?_
          refine L_v rfl rfl rfl (V_assign rfl rfl) ?_
          refine L_nil ?_
          change J _ _ _ _
          refine J_ret ?_
          change Kret _ _ _ Exit.ret _
          refine ret2 rfl rfl (RV_t rfl) (RV_t rfl) ?_
          exact fun w' h => retG (by rw [hgv]; cases d with
            | nil => exact absurd hz (by show ¬ (0 = n'); omega)
            | cons x y => rfl) rfl h.fr
        ·
          first | (have h4 := h4; rw [decide_eq_true_eq] at h4) | (have h4 := h4; rw [decide_eq_false_iff_not] at h4) | skip
          have hd0 : d = [] := List.eq_nil_of_length_eq_zero (by omega)
          subst hd0
          refine L_wv rfl rfl rfl rfl rfl rfl (V_move rfl rfl) ?_
          refine L_wcallV rfl rfl rfl rfl rfl rfl rfl rfl rfl tx11b (fun w hw => check_w (oA q) i (oC q) acc w hl' (SlC.ofM hw (fun p hp => List.mem_cons_of_mem _ hp) hq) (by omega) hq.le) ?_
          refine L_wv rfl rfl rfl rfl rfl rfl (V_neq rfl rfl rfl (by first | exact decide_eq_true (by omega) | exact decide_eq_false (by omega) | rfl)) ?_
          first | refine L_v rfl rfl rfl (V_pickT rfl rfl rfl) ?_ | refine L_v rfl rfl rfl (V_pickF rfl rfl rfl) ?_
          refine L_nil ?_
          change J _ _ _ _
          refine J_cond rfl (fun h5 => ?_) (fun h5 => ?_)
          ·
            first | (have h5 := h5; rw [decide_eq_true_eq] at h5) | (have h5 := h5; rw [decide_eq_false_iff_not] at h5) | skip
            refine J_seq ?_
            refine J_region ?_
            refine L_v rfl rfl rfl (V_assign rfl rfl) ?_
            refine L_v rfl rfl rfl (V_assign rfl rfl) ?_
            refine L_nil ?_
            change J _ _ _ _
            refine J_ret ?_
            change Kret _ _ _ Exit.ret _
            refine ret2 rfl rfl (RV_t rfl) (RV_t rfl) ?_
            exact fun w' h => retG (by rw [hgv]; exact if_neg (fun hh => h5 (if_pos hh))) rfl h.fr
          ·
            first | (have h5 := h5; rw [decide_eq_true_eq] at h5) | (have h5 := h5; rw [decide_eq_false_iff_not] at h5) | skip
            have hh : isH acc = true := by
              by_cases hh : isH acc = true
              · exact hh
              · exact absurd (show ((if isH acc = true then (0 : Int) else 50) ≠ 0) by rw [if_neg hh]; decide) h5
            have hg : getV b = some acc := by rw [hgv]; exact if_pos hh
            refine J_skip ?_
            change J _ _ _ _
            refine J_seq ?_
            refine J_region ?_
            refine L_v rfl rfl rfl (V_move rfl rfl) ?_
            refine L_v rfl rfl rfl (V_assign rfl rfl) ?_
            refine L_v rfl rfl rfl (V_assign rfl rfl) ?_
            refine L_nil ?_
            change J _ _ _ _
            refine J_ret ?_
            change Kret _ _ _ Exit.ret _
            refine ret2 rfl rfl (RV_t rfl) (RV_t rfl) ?_
            rw [hg]
            exact fun w' h => RetO.of (q := q) (m1 := [(b0, row 66 [.slice a' n' c'])]) (m2 := []) h rfl (hl' ▸ hq) (by rw [← hl']; rfl) (by rw [List.append_nil]; rfl)

theorem get_s {a : Option Addr} {n c : Nat} {b : List Int} {w : World} (hu : SlB w (.slice a n c) b) (hby : Byt b) (hcn : n ≤ c) (hn : n ≤ 1048576) {l : List Ver} (h : getV b = some l) : Calls Tryd.prog 8 #[.slice a n c] w (RetO 44 3 w (vcs l) l.length (fun s => .tuple #[s, .int .i64 0])) := by
  have := get_w a n c b w hu hby hcn hn
  rw [h] at this
  exact this
theorem get_n {a : Option Addr} {n c : Nat} {b : List Int} {w : World} (hu : SlB w (.slice a n c) b) (hby : Byt b) (hcn : n ≤ c) (hn : n ≤ 1048576) (h : getV b = none) : Calls Tryd.prog 8 #[.slice a n c] w (RetO 44 3 w [] 0 (fun s => .tuple #[s, .int .i64 50])) := by
  have := get_w a n c b w hu hby hcn hn
  rw [h] at this
  exact this
theorem put_e (a : Option Addr) (n c : Nat) (l : List Ver) (w : World) (hl : l.length = n) (hu : SlC 3 w (.slice a n c) n (vcs l)) (hn : n ≤ 1048576) (hcn : n ≤ c) (h : isH l = true) {L : List Int} {k : Nat} (hL : putB l = L) (hk : L.length = k) : Calls Tryd.prog 4 #[.slice a n c] w (RetB 5 w L k (fun s => .tuple #[s, .int .i64 0])) := by
  subst hL hk
  exact put_ok a n c l w hl hu hn hcn h
theorem byt1 : Byt [1, 1, 1, 1, 107] := by intro x hx; simp at hx; omega
theorem byt2 : Byt [1] := by intro x hx; simp at hx; omega
theorem his3 : isH [pP] = true := by kernel_rfl

theorem puts_w (w : World) :
    Calls Tryd.prog 7 #[] w fun e w' => e = .returned (.bool true) ∧ Fr [] w w' := by
  refine calls_of (args := []) ([]) ([]) ([]) Tryd.func7 rfl rfl (okW0 _ _ _ _) ?_
  refine J_seq ?_
  refine J_region ?_
  refine L_v rfl rfl rfl (V_assign rfl rfl) ?_
  refine L_nil ?_
  change J _ _ _ _
  refine J_seq ?_
  refine J_region ?_
  refine L_callV rfl rfl rfl rfl rfl rfl tx16b (fun w _ => put_w w) ?_
  refine L_buildSlice (vs := [(0, .agg (vc pP).toArray)]) (l := vcs [pP]) rfl rfl rfl rfl rfl (bs1 _) (fun b0 => ?_)
  refine L_callB rfl rfl rfl rfl rfl rfl tx4b (fun w hw => put_e (some ⟨b0, 0, none⟩) 1 1 [pP] w rfl (SlC.of_own hw (i := 0) (ks := vcs [pP]) (r := []) rfl rfl 1) (by omega) (Nat.le_refl 1) his3 put1 (k := 5) rfl) (fun g1 r1 c1 hl1 hc1 hr1 => ?_)
  refine L_v rfl rfl rfl (V_move rfl rfl) ?_
  refine L_v rfl rfl rfl (V_extract rfl rfl rfl) ?_
  refine L_v rfl rfl rfl (V_extract rfl rfl rfl) ?_
  refine L_v rfl rfl rfl (V_assign rfl rfl) ?_
  refine L_v rfl rfl rfl (V_assign rfl rfl) ?_
  refine L_nil ?_
  change J _ _ _ _
  refine J_seq ?_
  refine J_region ?_
  refine L_v rfl rfl rfl (V_move rfl rfl) ?_
  refine L_callO rfl rfl rfl rfl rfl rfl tx8b (fun w hw => get_s (SlB.of_own hw (i := 1) (l := [1, 1, 1, 1, 107]) rfl hl1 c1) byt1 hc1 (by omega) get1) (fun q2 hq2 => ?_)
  refine L_v rfl rfl rfl (V_move rfl rfl) ?_
  refine L_v rfl rfl rfl (V_extract rfl rfl rfl) ?_
  refine L_v rfl rfl rfl (V_extract rfl rfl rfl) ?_
  refine L_v rfl rfl rfl (V_assign rfl rfl) ?_
  refine L_v rfl rfl rfl (V_assign rfl rfl) ?_
  refine L_nil ?_
  change J _ _ _ _
  refine J_seq ?_
  refine J_region ?_
  refine L_buildSlice (vs := [(0, .int .u8 1)]) (l := dg [1]) rfl rfl rfl rfl rfl bsl1a (fun b3 => ?_)
  refine L_callO rfl rfl rfl rfl rfl rfl tx8b (fun w hw => get_n (SlB.in hw (l := [1]) (r := []) (fz := (0, 0)) (List.mem_append_right _ (List.mem_singleton.2 rfl)) rfl 1) byt2 (Nat.le_refl 1) (by omega) get2) (fun q3 hq3 => ?_)
  refine L_v rfl rfl rfl (V_move rfl rfl) ?_
  refine L_v rfl rfl rfl (V_extract rfl rfl rfl) ?_
  refine L_v rfl rfl rfl (V_extract rfl rfl rfl) ?_
  refine L_v rfl rfl rfl (V_assign rfl rfl) ?_
  refine L_v rfl rfl rfl (V_assign rfl rfl) ?_
  refine L_nil ?_
  change J _ _ _ _
  refine J_seq ?_
  refine J_region ?_
  refine L_v rfl rfl rfl (V_move rfl rfl) ?_
  refine L_v rfl rfl rfl (V_eql rfl rfl rfl (by first | exact decide_eq_true (by omega) | exact decide_eq_false (by omega) | rfl)) ?_
  refine L_v rfl rfl rfl (V_move rfl rfl) ?_
  refine L_wv rfl rfl rfl rfl rfl rfl (V_move rfl rfl) ?_
  refine L_wv rfl rfl rfl rfl rfl rfl (V_str rfl rfl Tryd.underlying23 Tryd.underlying5 Tryd.underlying9 (fun w hw => SlB.of_own hw (i := 1) (l := [1, 1, 1, 1, 107]) rfl hl1 c1)) ?_
  refine L_wv rfl rfl rfl rfl rfl rfl (V_eqS rfl rfl rfl (decide_eq_true (by decide))) ?_
  first | refine L_v rfl rfl rfl (V_pickT rfl rfl rfl) ?_ | refine L_v rfl rfl rfl (V_pickF rfl rfl rfl) ?_
  refine L_v rfl rfl rfl (V_move rfl rfl) ?_
  refine L_wv rfl rfl rfl rfl rfl rfl (V_move rfl rfl) ?_
  refine L_wv rfl rfl rfl rfl rfl rfl (V_eql rfl rfl rfl (by first | exact decide_eq_true (by omega) | exact decide_eq_false (by omega) | rfl)) ?_
  first | refine L_v rfl rfl rfl (V_pickT rfl rfl rfl) ?_ | refine L_v rfl rfl rfl (V_pickF rfl rfl rfl) ?_
  refine L_v rfl rfl rfl (V_move rfl rfl) ?_
  refine L_wv rfl rfl rfl rfl rfl rfl (V_move rfl rfl) ?_
  refine L_wv rfl rfl rfl rfl rfl rfl (V_len rfl rfl Tryd.underlying22 rfl) ?_
  refine L_wv rfl rfl rfl rfl rfl rfl (V_eql rfl rfl rfl (by first | exact decide_eq_true (by omega) | exact decide_eq_false (by omega) | rfl)) ?_
  first | refine L_v rfl rfl rfl (V_pickT rfl rfl rfl) ?_ | refine L_v rfl rfl rfl (V_pickF rfl rfl rfl) ?_
  refine L_v rfl rfl rfl (V_move rfl rfl) ?_
  refine L_wv rfl rfl rfl rfl rfl rfl (V_move rfl rfl) ?_
  refine L_wv rfl rfl rfl rfl rfl rfl (V_eql rfl rfl rfl (by first | exact decide_eq_true (by omega) | exact decide_eq_false (by omega) | rfl)) ?_
  first | refine L_v rfl rfl rfl (V_pickT rfl rfl rfl) ?_ | refine L_v rfl rfl rfl (V_pickF rfl rfl rfl) ?_
  refine L_v rfl rfl rfl (V_assign rfl rfl) ?_
  refine L_nil ?_
  change J _ _ _ _
  refine J_ret ?_
  change Kret _ _ _ Exit.ret _
  refine ret1 rfl rfl (RV_t rfl) ?_
  exact fun w' h => ⟨rfl, h.fr⟩

end Go.Proofs.YthafhiemecfjiaaDoor
