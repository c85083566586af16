/- The law VaultRoom: its walk. -/
import Derived.Test.YtcdenfkbhefbbaaV12
set_option linter.unusedVariables false
set_option linter.unusedSimpArgs false
set_option maxRecDepth 100000
namespace Go.Proofs.Ytcdenfkbhefbbaa
open Go.Sx
def entR : Nat → List EnV
  | 0 => []
  | i + 1 => entR i ++ [(enN ((i : Int) + 1), spN, spN)]
theorem entR_len : ∀ i, (entR i).length = i
  | 0 => rfl
  | i + 1 => by
    show (entR i ++ [_]).length = i + 1
    rw [List.length_append, entR_len i]
    rfl
theorem entR_get : ∀ (i j : Nat), j < i → (entR i).getD j env0 = (enN ((j : Int) + 1), spN, spN)
  | i + 1, j, h => by
    show (entR i ++ [_]).getD j env0 = _
    by_cases hj : j < i
    · rw [getD_l (by rw [entR_len]; exact hj)]
      exact entR_get i j hj
    · obtain rfl : j = i := by omega
      have h9 := getD_e (a := entR j) (x := (enN ((j : Int) + 1), spN, spN)) (d := env0)
      rwa [entR_len] at h9
theorem entR_mem {i : Nat} {p : EnV} (h : p ∈ entR i) : ∃ j : Nat, j < i ∧ p = (enN ((j : Int) + 1), spN, spN) := by
  induction i with
  | zero => cases h
  | succ i ih =>
    rcases List.mem_append.1 (show p ∈ entR i ++ [_] from h) with h1 | h1
    · obtain ⟨j, hj, e⟩ := ih h1
      exact ⟨j, by omega, e⟩
    · exact ⟨i, by omega, List.mem_singleton.1 h1⟩
def SR (i : Nat) : SvS := ⟨2, 0, sn0, spN, spN, entR i, []⟩
theorem ok_ent {k : Int} (h : 0 ≤ k ∧ k ≤ 2147483647) : okR (eR (enN k)) = true := by
  rw [okR_all, show recC.tk (eR (enN k)) = [Tok.c 2, Tok.c 0, Tok.c 0, Tok.c k] ++ (recC.tk (eR (enN 0))).drop 4 from rfl, List.all_append]
  simp only [List.all_cons, List.all_nil, tokB, decide_eq_true h]
  kernel_rfl
theorem rightR {i : Nat} (h : i ≤ 9000) : RightS (SR i).sv := by
  have hl : (SR i).sv.ents.length = i := svEnts.trans (entR_len i)
  have hm : ∀ e ∈ (SR i).sv.ents, ∃ j : Nat, j < i ∧ e = enN ((j : Int) + 1) := fun e he => by
    obtain ⟨p, hp, rfl⟩ := List.mem_map.1 (show e ∈ (entR i).map Prod.fst from he)
    obtain ⟨j, hj, rfl⟩ := entR_mem hp
    exact ⟨j, hj, rfl⟩
  refine ⟨⟨by omega, by show 0 ≤ 200; omega, by show ¬ (900000000 < 2); omega, by show ¬ (900000000 < 0); omega, by show ¬ (900000000 < 0); omega, .inr rfl⟩, fun j hj => ?_, fun j _ hj => absurd hj (Nat.not_lt_zero _), by rw [okR_all]; kernel_rfl, fun h => absurd rfl h, fun e he => ?_, fun x hx => (nomatch hx)⟩
  · rw [hl] at hj
    show (((entR i).map Prod.fst).getD j en0).1 - 1 - (j : Int) = 0
    rw [getD_map' Prod.fst env0 en0 (by rw [entR_len]; exact hj), entR_get i j hj]
    show (j : Int) + 1 - 1 - j = 0
    omega
  · obtain ⟨j, hj, rfl⟩ := hm e he
    exact ok_ent ⟨by omega, by omega⟩
theorem not_rightR {i : Nat} (h : ¬ i ≤ 9000) : ¬ RightS (SR i).sv := fun hr => h (by have h1 := hr.1.1; rw [svEnts] at h1; exact (entR_len i) ▸ h1)
theorem chkR (i : Nat) : chkN 2 0 sn0 (entR i) [] = if i ≤ 9000 then 0 else 1 := by
  by_cases h : i ≤ 9000
  · rw [if_pos h]
    exact chk_right.2 (rightR h)
  · rw [if_neg h]
    exact (foldK_1 (S := SR i) (r := tR 0 0) (fun h1 => not_rightR h (chk_right.1 h1))).2
theorem mayR' {i : Nat} (h : i ≤ 9100) : okR (eR (enN ((i : Int) + 1))) = true ∧ MayR (eR (enN ((i : Int) + 1))) := ⟨ok_ent ⟨by omega, by omega⟩, .inr (.inl ⟨_, rfl⟩)⟩
theorem adR {i : Nat} (h : i ≤ 9100) : adE (SR i).sv (eR (enN ((i : Int) + 1))) = if i = 9000 then 2 else 0 := by
  rw [adE_2 (mayR' h) rfl, if_neg (fun hh => hh.elim (fun h1 => h1 (by rw [svLast]; show (i : Int) + 1 = 0 + ((entR i).length : Int) + 1; rw [entR_len]; omega)) (fun h1 => by have h2 : 900000000 < (i : Int) + 1 := h1; omega)), svEnts]
  show (if (entR i).length = 9000 then (2 : Int) else 0) = _
  rw [entR_len]
theorem foldR {i : Nat} (h : i ≤ 9100) : foldQ (SR i).sv (eR (enN ((i : Int) + 1))) = if 9000 < i then 1 else if i = 9000 then 2 else 0 := by
  unfold foldQ
  by_cases h1 : i ≤ 9000
  · rw [if_pos (rightR h1), adR h, if_neg (by omega : ¬ 9000 < i)]
  · rw [if_neg (not_rightR h1), if_pos (by omega : 9000 < i)]
theorem szR {i : Nat} (h : i ≤ 9100) : SzV (SR i).sv := by
  have hm : ∀ e ∈ (SR i).sv.ents, ∃ j : Nat, j < i ∧ e = enN ((j : Int) + 1) := fun e he => by
    obtain ⟨p, hp, rfl⟩ := List.mem_map.1 (show e ∈ (entR i).map Prod.fst from he)
    obtain ⟨j, hj, rfl⟩ := entR_mem hp
    exact ⟨j, hj, rfl⟩
  refine ⟨⟨Nat.zero_le _, Nat.zero_le _⟩, fun e he => ?_, by rw [svEnts]; show (entR i).length ≤ _; rw [entR_len]; omega, Nat.zero_le _, fun e he => ?_⟩
  · obtain ⟨j, hj, rfl⟩ := hm e he
    exact ⟨Nat.zero_le _, Nat.zero_le _⟩
  · obtain ⟨j, hj, rfl⟩ := hm e he
    show _ ≤ (j : Int) + 1 ∧ (j : Int) + 1 ≤ _
    omega
theorem faR {w : World} {i : Nat} {s : Sp} (h : SlC 43 w (.slice s.1 (entR i).length s.2) (entR i).length ((entR i).map enW).flatten) : FA w (svF (SR i) s spN) :=
  .and clA_0 (.and (.and (.slc h) (.all fun f hf => by
    obtain ⟨p, hp, rfl⟩ := List.mem_map.1 hf
    obtain ⟨j, hj, rfl⟩ := entR_mem hp
    exact clA_0)) (.slc (.inl ⟨rfl, rfl, _, _, rfl⟩)))
theorem yesR {i : Nat} {S' : SvS} (h : i < 9000) (hv : S'.sv = foldV (SR i).sv (eR (enN ((i : Int) + 1)))) : S'.es.length = i + 1 ∧ (S'.es.getD i env0).1.1 = (i : Int) + 1 := by
  have hq : foldQ (SR i).sv (eR (enN ((i : Int) + 1))) = 0 := by rw [foldR (by omega), if_neg (by omega : ¬ 9000 < i), if_neg (by omega : ¬ i = 9000)]
  have h1 : S'.sv = foldS (SR i).sv (eR (enN ((i : Int) + 1))) := by rw [hv]; unfold foldV; rw [if_pos hq]
  have h2 : S'.es.map Prod.fst = (entR i).map Prod.fst ++ [enN ((i : Int) + 1)] := congrArg Sv.ents h1
  have h3 : S'.es.length = i + 1 := by
    have h4 := congrArg List.length h2
    rw [List.length_map, List.length_append, List.length_map, entR_len] at h4
    exact h4
  refine ⟨h3, ?_⟩
  have h5 := getD_map' Prod.fst (l := S'.es) (i := i) env0 en0 (by omega)
  rw [h2] at h5
  have h6 := getD_e (a := (entR i).map Prod.fst) (x := enN ((i : Int) + 1)) (d := en0)
  rw [List.length_map, entR_len] at h6
  rw [h6] at h5
  rw [← h5]
theorem sz3wRoo : (Try.prog.info? 3).map (·.size) = some 1 := by kernel_rfl
theorem sz27wRoo : (Try.prog.info? 27).map (·.size) = some 1 := by kernel_rfl
theorem sz30wRoo : (Try.prog.info? 30).map (·.size) = some 9 := by kernel_rfl
theorem sz39wRoo : (Try.prog.info? 39).map (·.size) = some 43 := by kernel_rfl
theorem tx8wRoo : Txt Try.prog 8 := txt_of Try.func8 rfl (by kernel_rfl)
theorem tx9wRoo : Txt Try.prog 9 := txt_of Try.func9 rfl (by kernel_rfl)
theorem tx13wRoo : Txt Try.prog 13 := txt_of Try.func13 rfl (by kernel_rfl)
theorem tx14wRoo : Txt Try.prog 14 := txt_of Try.func14 rfl (by kernel_rfl)
theorem z30wRoo : (Try.prog.info? 30).bind (·.zero) = some (.agg [.int .i64 0, .int .i64 0, .int .i64 0, .int .i64 0, .slice none 0 0, .slice none 0 0, .string ByteArray.empty, .slice none 0 0, .slice none 0 0].toArray) := by kernel_rfl

set_option maxHeartbeats 4000000 in
theorem VaultRoom_w (n : Int) (w : World) :
    Calls Try.prog 5 #[.int .i64 n] w fun e w' => e = .returned (.bool true) ∧ Fr [] w w' := by
  refine calls_of (args := [.int .i64 n]) ([]) ([]) ([]) Try.func5 rfl rfl (okW0 _ _ _ _) ?_
  refine J_seq ?_
  refine J_region ?_
  refine L_v rfl rfl rfl (V_assign rfl rfl) ?_
  refine L_nil ?_
  change J _ _ _ _
  refine J_seq ?_
  refine J_seq ?_
  refine J_region ?_
  refine L_v rfl rfl rfl (V_move rfl rfl) ?_
  refine L_v rfl rfl rfl (V_lss rfl rfl rfl (by first | exact decide_eq_true (by omega) | exact decide_eq_false (by omega) | rfl)) ?_
  refine L_v rfl rfl rfl (V_move rfl rfl) ?_
  apply L_or 2 10 13
  · rfl
  · rfl
  · rfl
  · rfl
  · rfl
  · rfl
  · rfl
  · kernel_rfl
  · intro hb1 _ _ hk1
    refine L_wv rfl rfl rfl rfl rfl rfl (V_move rfl rfl) ?_
    refine L_wv rfl rfl rfl rfl rfl rfl (V_gtr rfl rfl rfl (by first | exact decide_eq_true (by omega) | exact decide_eq_false (by omega) | rfl)) ?_
    exact hk1 _ ⟨rfl, rfl, rfl, rfl, ext_cut 2 (by kernel_rfl) (by kernel_rfl)⟩
  refine L_nil ?_
  change J _ _ _ _
  refine J_cond rfl (fun h2 => ?_) (fun h2 => ?_)
  ·
    first | (have h2 := of_decide_eq_true h2) | (have h2 := of_decide_eq_false h2) | skip
    refine J_seq ?_
    refine J_region ?_
    refine L_v rfl rfl rfl (V_assign rfl rfl) ?_
    refine L_nil ?_
    change J _ _ _ _
    refine J_ret ?_
    change Kret _ _ _ Exit.ret _
    refine ret1 rfl rfl (RV_t rfl) ?_
    exact fun w' h => ⟨rfl, h.fr⟩
  ·
    first | (have h2 := of_decide_eq_true h2) | (have h2 := of_decide_eq_false h2) | skip
    rw [Bool.or_eq_false_iff, decide_eq_false_iff_not, decide_eq_false_iff_not] at h2
    obtain ⟨N, rfl⟩ : ∃ N : Nat, n = (N : Int) := ⟨n.toNat, by omega⟩
    obtain ⟨hn1, hn2⟩ := h2
    refine J_skip ?_
    change J _ _ _ _
    refine J_seq ?_
    refine J_region ?_
    refine L_v rfl rfl rfl (V_buildE (v := .agg (svC 2 0 sn0 spN spN (.slice none 0 0) (.slice none 0 0)).toArray) rfl rfl (fun w => by kernel_rfl)) ?_
    refine L_alloc rfl rfl rfl rfl z30wRoo (fun b0 => ?_)
    refine L_storeW 0 rfl rfl rfl rfl rfl rfl (szd sz30wRoo (by kernel_rfl)) (all_one (by kernel_rfl)) (by kernel_rfl) ?_
    refine L_nil ?_
    change J _ _ _ _
    refine J_seq ?_
    refine J_seq ?_
    refine J_region ?_
    refine L_v rfl rfl rfl (V_assign rfl rfl) ?_
    refine L_nil ?_
    change J _ _ _ _
    refine J_block ?_
    refine J_loop (X := Nat × OwnP) (fun x => { env := [(0, .int .i64 (N : Int)), (3, .pointer (some ⟨b0, 0, none⟩)), (4, .int .i64 (x.1 : Int))], mem := (b0, row 30 (svC 2 0 sn0 spN spN (.slice (pA x.2) (entR x.1).length (pC x.2)) (.slice none 0 0))) :: pM 39 x.2 ((entR x.1).map enW).flatten }) (fun x => x.1 ≤ N ∧ PC 43 x.2 (entR x.1).length ((entR x.1).map enW).flatten) (fun x => N - x.1) (0, none) ⟨Nat.zero_le _, rfl, rfl⟩ ⟨⟨rfl, rfl, rfl, trivial⟩, List.Sublist.refl _, fun f hf => hf, rfl⟩ ?_
    rintro ⟨i, q⟩ ⟨hi, hq⟩
    simp only at hi hq ⊢
    have hil := entR_len i
    refine J_seq ?_
    refine J_seq ?_
    refine J_region ?_
    refine L_v rfl rfl rfl (V_move rfl rfl) ?_
    refine L_v rfl rfl rfl (V_move rfl rfl) ?_
    refine L_v rfl rfl rfl (V_lss rfl rfl rfl (by first | exact decide_eq_true (by omega) | exact decide_eq_false (by omega) | rfl)) ?_
    refine L_nil ?_
    change J _ _ _ _
    refine J_cond rfl (fun h3 => ?_) (fun h3 => ?_)
    ·
      first | (have h3 := of_decide_eq_true h3) | (have h3 := of_decide_eq_false h3) | skip
      refine J_skip ?_
      change J _ _ _ _
      refine J_seq ?_
      refine J_block ?_
      refine J_regionO (.pure 0 (.pure 2 (.pure 3 (.two 1 (.one 4 (.pure 5 (.one 6 (.one 7 (.pure 8 (.one 9 (.nil))))))) 4 (.pure 5 (.two 1 (.one 6 (.one 7 (.pure 8 (.one 9 (.nil))))) 6 (.one 1 (.one 7 (.pure 8 (.one 9 (.nil))))))))))) ([]) _ (Pk.of_sub (List.nil_sublist _)) (fun f hf => hf) rfl rfl (by kernel_rfl) ?_
      refine LO_v rfl rfl rfl rfl (V_fieldAddr rfl rfl Try.underlying30 rfl sz27wRoo rfl) ?_
      refine LO_v rfl rfl rfl rfl (V_move rfl rfl) ?_
      refine LO_v rfl rfl rfl rfl (V_add rfl rfl rfl (by first | exact Go.IntWalk.i64_in _ (by omega) | rfl)) ?_
      refine LO_both ?_ ?_
      ·
        refine LO_s rfl rfl rfl (S_v rfl rfl (V_load1 0 rfl rfl rfl Try.underlying27 rfl (by rfl)) ⟨(Pk.of_sub (List.nil_sublist _)), (fun f hf => hf), ?_⟩)
        refine LO_callV rfl rfl rfl rfl rfl rfl rfl rfl tx14wRoo (fun w1 hw => entry_w ((i : Int) + 1) w1) (Pk.of_sub (List.nil_sublist _)) (fun f hf => hf) ?_
        refine LO_v rfl rfl rfl rfl (V_fieldN (vs := (enX ((eR (enN ((i : Int) + 1))).2.2.2.1) spN spN).toArray) rfl rfl Try.underlying45 rfl Try.underlying39 rfl sz39wRoo (by kernel_rfl)) ?_
        refine LO_s rfl rfl rfl (S_buildSlice (vs := [(0, .agg (enX (enN ((i : Int) + 1)) spN spN).toArray)]) (l := enX (enN ((i : Int) + 1)) spN spN) rfl rfl rfl rfl (bsE _ _ _) (fun b1 => ⟨(Pk.of_sub (List.nil_sublist _)), (fun f hf => hf), ?_⟩))
        refine LO_s rfl rfl rfl (S_appendP [(b0, row 30 (svC 2 0 sn0 spN spN (.slice (pA q) (entR i).length (pC q)) (.slice none 0 0)))] [(b1, row 39 (enX (enN ((i : Int) + 1)) spN spN))] q ((entR i).map enW).flatten (n := (entR i).length) (m := 1) (news := enX (enN ((i : Int) + 1)) spN spN) rfl rfl rfl rfl Try.underlying27 elE rfl hq (fun w1 hw => src_C Try.underlying27 (SlC.in (r := []) (fz := (0, 0)) hw (List.mem_append_right _ (List.mem_singleton.2 rfl)) rfl 1) (all_one (by kernel_rfl))) (by omega) (by omega) (fun q' hq' => ⟨(Pk.of_sub (List.nil_sublist _)), (fun f hf => hf), ?_⟩))
        refine LO_v rfl rfl rfl rfl (V_fieldAddr rfl rfl Try.underlying30 rfl sz27wRoo rfl) ?_
        refine LO_s rfl rfl rfl (S_store1 0 (l' := svC 2 0 sn0 spN spN (.slice (pA q') ((entR i).length + 1) (pC q')) (.slice none 0 0)) rfl rfl rfl rfl rfl rfl sz27wRoo (Nat.le_of_ble_eq_true (by kernel_rfl)) (by kernel_rfl) ⟨(Pk.of_sub (List.nil_sublist _)), (fun f hf => hf), ?_⟩)
        refine LO_nil ?_
        change J _ _ _ _
        refine J_region ?_
        refine L_v rfl rfl rfl (V_move rfl rfl) ?_
        refine L_v rfl rfl rfl (V_add rfl rfl rfl (by first | exact Go.IntWalk.i64_in _ (by omega) | rfl)) ?_
        refine L_v rfl rfl rfl (V_assign rfl rfl) ?_
        refine L_nil ?_
        have e9 : ((entR (i + 1)).map enW).flatten = ((entR i).map enW).flatten ++ enX (enN ((i : Int) + 1)) spN spN := by
          show ((entR i ++ [_]).map enW).flatten = _
          rw [List.map_append, List.flatten_append]
          rfl
        have l9 : (entR (i + 1)).length = (entR i).length + 1 := by rw [entR_len, entR_len]
        exact ⟨(i + 1, q'), ⟨by show i + 1 ≤ N; omega, by rw [e9, l9]; exact hq'⟩, by show N - (i + 1) < N - i; omega, ⟨rfl, rfl, rfl, trivial⟩, (by show List.Sublist ((b0, row 30 (svC 2 0 sn0 spN spN (.slice (pA q') (entR (i + 1)).length (pC q')) (.slice none 0 0))) :: pM 39 q' ((entR (i + 1)).map enW).flatten) _; rw [e9, l9]; exact List.Sublist.cons_cons _ (List.sublist_append_left _ _)), fun f hf => hf, rfl⟩
      ·
        refine LO_callV rfl rfl rfl rfl rfl rfl rfl rfl tx14wRoo (fun w1 hw => entry_w ((i : Int) + 1) w1) (Pk.of_sub (List.nil_sublist _)) (fun f hf => hf) ?_
        refine LO_v rfl rfl rfl rfl (V_fieldN (vs := (enX ((eR (enN ((i : Int) + 1))).2.2.2.1) spN spN).toArray) rfl rfl Try.underlying45 rfl Try.underlying39 rfl sz39wRoo (by kernel_rfl)) ?_
        refine LO_both ?_ ?_
        ·
          refine LO_s rfl rfl rfl (S_v rfl rfl (V_load1 0 rfl rfl rfl Try.underlying27 rfl (by rfl)) ⟨(Pk.of_sub (List.nil_sublist _)), (fun f hf => hf), ?_⟩)
          refine LO_s rfl rfl rfl (S_buildSlice (vs := [(0, .agg (enX (enN ((i : Int) + 1)) spN spN).toArray)]) (l := enX (enN ((i : Int) + 1)) spN spN) rfl rfl rfl rfl (bsE _ _ _) (fun b1 => ⟨(Pk.of_sub (List.nil_sublist _)), (fun f hf => hf), ?_⟩))
          refine LO_s rfl rfl rfl (S_appendP [(b0, row 30 (svC 2 0 sn0 spN spN (.slice (pA q) (entR i).length (pC q)) (.slice none 0 0)))] [(b1, row 39 (enX (enN ((i : Int) + 1)) spN spN))] q ((entR i).map enW).flatten (n := (entR i).length) (m := 1) (news := enX (enN ((i : Int) + 1)) spN spN) rfl rfl rfl rfl Try.underlying27 elE rfl hq (fun w1 hw => src_C Try.underlying27 (SlC.in (r := []) (fz := (0, 0)) hw (List.mem_append_right _ (List.mem_singleton.2 rfl)) rfl 1) (all_one (by kernel_rfl))) (by omega) (by omega) (fun q' hq' => ⟨(Pk.of_sub (List.nil_sublist _)), (fun f hf => hf), ?_⟩))
          refine LO_v rfl rfl rfl rfl (V_fieldAddr rfl rfl Try.underlying30 rfl sz27wRoo rfl) ?_
          refine LO_s rfl rfl rfl (S_store1 0 (l' := svC 2 0 sn0 spN spN (.slice (pA q') ((entR i).length + 1) (pC q')) (.slice none 0 0)) rfl rfl rfl rfl rfl rfl sz27wRoo (Nat.le_of_ble_eq_true (by kernel_rfl)) (by kernel_rfl) ⟨(Pk.of_sub (List.nil_sublist _)), (fun f hf => hf), ?_⟩)
          refine LO_nil ?_
          change J _ _ _ _
          refine J_region ?_
          refine L_v rfl rfl rfl (V_move rfl rfl) ?_
          refine L_v rfl rfl rfl (V_add rfl rfl rfl (by first | exact Go.IntWalk.i64_in _ (by omega) | rfl)) ?_
          refine L_v rfl rfl rfl (V_assign rfl rfl) ?_
          refine L_nil ?_
          have e9 : ((entR (i + 1)).map enW).flatten = ((entR i).map enW).flatten ++ enX (enN ((i : Int) + 1)) spN spN := by
            show ((entR i ++ [_]).map enW).flatten = _
            rw [List.map_append, List.flatten_append]
            rfl
          have l9 : (entR (i + 1)).length = (entR i).length + 1 := by rw [entR_len, entR_len]
          exact ⟨(i + 1, q'), ⟨by show i + 1 ≤ N; omega, by rw [e9, l9]; exact hq'⟩, by show N - (i + 1) < N - i; omega, ⟨rfl, rfl, rfl, trivial⟩, (by show List.Sublist ((b0, row 30 (svC 2 0 sn0 spN spN (.slice (pA q') (entR (i + 1)).length (pC q')) (.slice none 0 0))) :: pM 39 q' ((entR (i + 1)).map enW).flatten) _; rw [e9, l9]; exact List.Sublist.cons_cons _ (List.sublist_append_left _ _)), fun f hf => hf, rfl⟩
        ·
          refine LO_s rfl rfl rfl (S_buildSlice (vs := [(0, .agg (enX (enN ((i : Int) + 1)) spN spN).toArray)]) (l := enX (enN ((i : Int) + 1)) spN spN) rfl rfl rfl rfl (bsE _ _ _) (fun b1 => ⟨(Pk.of_sub (List.nil_sublist _)), (fun f hf => hf), ?_⟩))
          refine LO_s rfl rfl rfl (S_v rfl rfl (V_load1 0 rfl rfl rfl Try.underlying27 rfl (by rfl)) ⟨(Pk.of_sub (List.nil_sublist _)), (fun f hf => hf), ?_⟩)
          refine LO_s rfl rfl rfl (S_appendP [(b0, row 30 (svC 2 0 sn0 spN spN (.slice (pA q) (entR i).length (pC q)) (.slice none 0 0)))] [(b1, row 39 (enX (enN ((i : Int) + 1)) spN spN))] q ((entR i).map enW).flatten (n := (entR i).length) (m := 1) (news := enX (enN ((i : Int) + 1)) spN spN) rfl rfl rfl rfl Try.underlying27 elE rfl hq (fun w1 hw => src_C Try.underlying27 (SlC.in (r := []) (fz := (0, 0)) hw (List.mem_append_right _ (List.mem_singleton.2 rfl)) rfl 1) (all_one (by kernel_rfl))) (by omega) (by omega) (fun q' hq' => ⟨(Pk.of_sub (List.nil_sublist _)), (fun f hf => hf), ?_⟩))
          refine LO_v rfl rfl rfl rfl (V_fieldAddr rfl rfl Try.underlying30 rfl sz27wRoo rfl) ?_
          refine LO_s rfl rfl rfl (S_store1 0 (l' := svC 2 0 sn0 spN spN (.slice (pA q') ((entR i).length + 1) (pC q')) (.slice none 0 0)) rfl rfl rfl rfl rfl rfl sz27wRoo (Nat.le_of_ble_eq_true (by kernel_rfl)) (by kernel_rfl) ⟨(Pk.of_sub (List.nil_sublist _)), (fun f hf => hf), ?_⟩)
          refine LO_nil ?_
          change J _ _ _ _
          refine J_region ?_
          refine L_v rfl rfl rfl (V_move rfl rfl) ?_
          refine L_v rfl rfl rfl (V_add rfl rfl rfl (by first | exact Go.IntWalk.i64_in _ (by omega) | rfl)) ?_
          refine L_v rfl rfl rfl (V_assign rfl rfl) ?_
          refine L_nil ?_
          have e9 : ((entR (i + 1)).map enW).flatten = ((entR i).map enW).flatten ++ enX (enN ((i : Int) + 1)) spN spN := by
            show ((entR i ++ [_]).map enW).flatten = _
            rw [List.map_append, List.flatten_append]
            rfl
          have l9 : (entR (i + 1)).length = (entR i).length + 1 := by rw [entR_len, entR_len]
          exact ⟨(i + 1, q'), ⟨by show i + 1 ≤ N; omega, by rw [e9, l9]; exact hq'⟩, by show N - (i + 1) < N - i; omega, ⟨rfl, rfl, rfl, trivial⟩, (by show List.Sublist ((b0, row 30 (svC 2 0 sn0 spN spN (.slice (pA q') (entR (i + 1)).length (pC q')) (.slice none 0 0))) :: pM 39 q' ((entR (i + 1)).map enW).flatten) _; rw [e9, l9]; exact List.Sublist.cons_cons _ (List.sublist_append_left _ _)), fun f hf => hf, rfl⟩
    ·
      first | (have h3 := of_decide_eq_true h3) | (have h3 := of_decide_eq_false h3) | skip
      obtain rfl : N = i := by omega
      have hck := chkR N
      have hfo := foldR (i := N) (by omega)
      refine J_exit ?_
      change J _ _ _ _
      refine J_seq ?_
      refine J_toFactP (e := 39) [(b0, row 30 (svC 2 0 sn0 spN spN (.slice (pA q) (entR N).length (pC q)) (.slice none 0 0)))] q ((entR N).map enW).flatten rfl hq ?_
      refine J_region ?_
      refine L_v rfl rfl rfl (V_loadT 0 (vs := svC 2 0 sn0 spN spN (.slice (pA q) (entR N).length (pC q)) (.slice none 0 0)) rfl rfl rfl Try.underlying30 rfl sz30wRoo (by kernel_rfl) (by kernel_rfl)) ?_
      refine L_callV rfl rfl rfl rfl rfl rfl tx8wRoo (fun w1 hw => check_w 2 0 sn0 spN spN (entR N) (pA q, pC q) [] spN w1 (faR (i := N) (s := (pA q, pC q)) (hw.fa 0 rfl).1).l (faR (i := N) (s := (pA q, pC q)) (hw.fa 0 rfl).1).r.l (faR (i := N) (s := (pA q, pC q)) (hw.fa 0 rfl).1).r.r ⟨by decide, by decide⟩ (by rw [entR_len]; omega) (by decide) (szR (i := N) (by omega)).S.2.2.2.2) ?_
      refine L_v rfl rfl rfl (V_assign rfl rfl) ?_
      refine L_nil ?_
      change J _ _ _ _
      refine J_seq ?_
      refine J_regionO (.pure 0 (.pure 1 (.pure 2 (.two 3 (.two 4 (.pure 5 (.pure 6 (.pure 7 (.one 8 (.one 9 (.pure 10 (.nil))))))) 8 (.one 4 (.pure 5 (.pure 6 (.pure 7 (.one 9 (.pure 10 (.nil)))))))) 8 (.one 3 (.one 4 (.pure 5 (.pure 6 (.pure 7 (.one 9 (.pure 10 (.nil)))))))))))) ([(b0, row 30 (svC 2 0 sn0 spN spN (.slice (pA q) (entR N).length (pC q)) (.slice none 0 0)))]) _ (Pk.of_sub (List.Sublist.cons_cons _ (List.nil_sublist _))) (fun f hf => hf) rfl rfl (by kernel_rfl) ?_
      refine LO_v rfl rfl rfl rfl (V_loadT 0 (vs := svC 2 0 sn0 spN spN (.slice (pA q) (entR N).length (pC q)) (.slice none 0 0)) rfl rfl rfl Try.underlying30 rfl sz30wRoo (by kernel_rfl) (by kernel_rfl)) ?_
      refine LO_v rfl rfl rfl rfl (V_move rfl rfl) ?_
      refine LO_v rfl rfl rfl rfl (V_add rfl rfl rfl (by first | exact Go.IntWalk.i64_in _ (by omega) | rfl)) ?_
      refine LO_both ?_ ?_
      ·
        refine LO_callV rfl rfl rfl rfl rfl rfl rfl rfl tx14wRoo (fun w1 hw => entry_w ((N : Int) + 1) w1) (Pk.of_sub (List.Sublist.cons_cons _ (List.nil_sublist _))) (fun f hf => hf) ?_
        refine LO_both ?_ ?_
        ·
          refine LO_s rfl rfl rfl (S_call rfl rfl rfl tx9wRoo (fun w1 hw => (fold_f (SR N) (pA q, pC q) spN (eR (enN ((N : Int) + 1))) spN spN spN spN w1 (faR (i := N) (s := (pA q, pC q)) (hw.fa 0 rfl).1) (.and clA_0 clA_0) (szR (by omega)) ⟨⟨Nat.zero_le _, Nat.zero_le _⟩, ⟨Nat.zero_le _, Nat.zero_le _⟩⟩).mono ?_))
          rintro e w' ⟨S', s', u', rfl, hfr, hn, hv⟩
          refine ⟨_, _, _, rfl, hw.newN hfr hn, rfl, (Pk.of_sub (List.Sublist.cons_cons _ (List.nil_sublist _))), (fun f hf => List.mem_append_left _ hf), ?_⟩
          refine LO_v rfl rfl rfl rfl (V_move rfl rfl) ?_
          refine LO_v rfl rfl rfl rfl (V_extract rfl rfl rfl) ?_
          refine LO_v rfl rfl rfl rfl (V_extract rfl rfl rfl) ?_
          refine LO_s rfl rfl rfl (S_alloc rfl rfl rfl z30wRoo (fun b1 => ⟨(Pk.of_sub (List.Sublist.cons_cons _ (List.nil_sublist _))), (fun f hf => List.mem_append_left _ hf), ?_⟩))
          refine LO_s rfl rfl rfl (S_storeW 1 rfl rfl rfl rfl rfl (szd sz30wRoo (by kernel_rfl)) (all_one (by kernel_rfl)) (by kernel_rfl) ⟨(Pk.of_sub (List.Sublist.cons_cons _ (List.nil_sublist _))), (fun f hf => List.mem_append_left _ hf), ?_⟩)
          refine LO_v rfl rfl rfl rfl (V_assign rfl rfl) ?_
          refine LO_nil ?_
          change J _ _ _ _
          refine J_seq ?_
          refine J_block ?_
          refine J_seq ?_
          refine J_region ?_
          refine L_v rfl rfl rfl (V_move rfl rfl) ?_
          refine L_v rfl rfl rfl (V_gtr rfl rfl rfl (by first | exact decide_eq_true (by omega) | exact decide_eq_false (by omega) | rfl)) ?_
          refine L_v rfl rfl rfl (V_assign rfl rfl) ?_
          refine L_nil ?_
          change J _ _ _ _
          refine J_cond rfl (fun h4 => ?_) (fun h4 => ?_)
          ·
            first | (have h4 := of_decide_eq_true h4) | (have h4 := of_decide_eq_false h4) | skip
            rw [if_neg (by omega)] at hck
            rw [if_pos (by omega)] at hfo
            refine J_seq ?_
            refine J_region ?_
            refine L_callV rfl rfl rfl rfl rfl rfl tx13wRoo (fun w1 hw => folds_w w1) ?_
            refine L_v rfl rfl rfl (V_move rfl rfl) ?_
            apply L_and 2 43 46
            · rfl
            · rfl
            · rfl
            · rfl
            · rfl
            · rfl
            · rfl
            · kernel_rfl
            · intro hb5 _ _ hk5
              refine L_wv rfl rfl rfl rfl rfl rfl (V_move rfl rfl) ?_
              refine L_wv rfl rfl rfl rfl rfl rfl (V_eql rfl rfl rfl (by first | exact decide_eq_true (by omega) | exact decide_eq_false (by omega) | rfl)) ?_
              exact hk5 _ ⟨rfl, rfl, rfl, rfl, ext_cut 2 (by kernel_rfl) (by kernel_rfl)⟩
            refine L_v rfl rfl rfl (V_move rfl rfl) ?_
            apply L_and 2 47 50
            · rfl
            · rfl
            · rfl
            · rfl
            · rfl
            · rfl
            · rfl
            · kernel_rfl
            · intro hb6 _ _ hk6
              refine L_wv rfl rfl rfl rfl rfl rfl (V_move rfl rfl) ?_
              refine L_wv rfl rfl rfl rfl rfl rfl (V_eql rfl rfl rfl (by first | exact decide_eq_true (by omega) | exact decide_eq_false (by omega) | rfl)) ?_
              exact hk6 _ ⟨rfl, rfl, rfl, rfl, ext_cut 2 (by kernel_rfl) (by kernel_rfl)⟩
            refine L_v rfl rfl rfl (V_assign rfl rfl) ?_
            refine L_nil ?_
            change J _ _ _ _
            refine J_ret ?_
            change Kret _ _ _ Exit.ret _
            refine ret1 rfl rfl (RV_t rfl) ?_
            exact fun w' h => ⟨rfl, h.fr⟩
          ·
            first | (have h4 := of_decide_eq_true h4) | (have h4 := of_decide_eq_false h4) | skip
            refine J_seq ?_
            refine J_region ?_
            refine L_v rfl rfl rfl (V_move rfl rfl) ?_
            refine L_v rfl rfl rfl (V_eql rfl rfl rfl (by first | exact decide_eq_true (by omega) | exact decide_eq_false (by omega) | rfl)) ?_
            refine L_v rfl rfl rfl (V_assign rfl rfl) ?_
            refine L_nil ?_
            change J _ _ _ _
            refine J_cond rfl (fun h5 => ?_) (fun h5 => ?_)
            ·
              first | (have h5 := of_decide_eq_true h5) | (have h5 := of_decide_eq_false h5) | skip
              rw [if_pos (by omega)] at hck
              rw [if_neg (by omega), if_pos (by omega)] at hfo
              refine J_seq ?_
              refine J_region ?_
              refine L_callV rfl rfl rfl rfl rfl rfl tx13wRoo (fun w1 hw => folds_w w1) ?_
              refine L_v rfl rfl rfl (V_move rfl rfl) ?_
              apply L_and 2 55 58
              · rfl
              · rfl
              · rfl
              · rfl
              · rfl
              · rfl
              · rfl
              · kernel_rfl
              · intro hb6 _ _ hk6
                refine L_wv rfl rfl rfl rfl rfl rfl (V_move rfl rfl) ?_
                refine L_wv rfl rfl rfl rfl rfl rfl (V_eql rfl rfl rfl (by first | exact decide_eq_true (by omega) | exact decide_eq_false (by omega) | rfl)) ?_
                exact hk6 _ ⟨rfl, rfl, rfl, rfl, ext_cut 2 (by kernel_rfl) (by kernel_rfl)⟩
              refine L_v rfl rfl rfl (V_move rfl rfl) ?_
              apply L_and 2 59 62
              · rfl
              · rfl
              · rfl
              · rfl
              · rfl
              · rfl
              · rfl
              · kernel_rfl
              · intro hb7 _ _ hk7
                refine L_wv rfl rfl rfl rfl rfl rfl (V_move rfl rfl) ?_
                refine L_wv rfl rfl rfl rfl rfl rfl (V_eql rfl rfl rfl (by first | exact decide_eq_true (by omega) | exact decide_eq_false (by omega) | rfl)) ?_
                exact hk7 _ ⟨rfl, rfl, rfl, rfl, ext_cut 2 (by kernel_rfl) (by kernel_rfl)⟩
              refine L_v rfl rfl rfl (V_assign rfl rfl) ?_
              refine L_nil ?_
              change J _ _ _ _
              refine J_ret ?_
              change Kret _ _ _ Exit.ret _
              refine ret1 rfl rfl (RV_t rfl) ?_
              exact fun w' h => ⟨rfl, h.fr⟩
            ·
              first | (have h5 := of_decide_eq_true h5) | (have h5 := of_decide_eq_false h5) | skip
              rw [if_pos (by omega)] at hck
              rw [if_neg (by omega), if_neg (by omega)] at hfo
              obtain ⟨hy1, hy2⟩ := yesR (i := N) (by omega) hv
              refine J_skip ?_
              change J _ _ _ _
              refine J_seq ?_
              refine J_region ?_
              refine L_callV rfl rfl rfl rfl rfl rfl tx13wRoo (fun w1 hw => folds_w w1) ?_
              refine L_v rfl rfl rfl (V_move rfl rfl) ?_
              apply L_and 2 64 67
              · rfl
              · rfl
              · rfl
              · rfl
              · rfl
              · rfl
              · rfl
              · kernel_rfl
              · intro hb6 _ _ hk6
                refine L_wv rfl rfl rfl rfl rfl rfl (V_move rfl rfl) ?_
                refine L_wv rfl rfl rfl rfl rfl rfl (V_eql rfl rfl rfl (by first | exact decide_eq_true (by omega) | exact decide_eq_false (by omega) | rfl)) ?_
                exact hk6 _ ⟨rfl, rfl, rfl, rfl, ext_cut 2 (by kernel_rfl) (by kernel_rfl)⟩
              refine L_v rfl rfl rfl (V_move rfl rfl) ?_
              apply L_and 2 68 71
              · rfl
              · rfl
              · rfl
              · rfl
              · rfl
              · rfl
              · rfl
              · kernel_rfl
              · intro hb7 _ _ hk7
                refine L_wv rfl rfl rfl rfl rfl rfl (V_move rfl rfl) ?_
                refine L_wv rfl rfl rfl rfl rfl rfl (V_eql rfl rfl rfl (by first | exact decide_eq_true (by omega) | exact decide_eq_false (by omega) | rfl)) ?_
                exact hk7 _ ⟨rfl, rfl, rfl, rfl, ext_cut 2 (by kernel_rfl) (by kernel_rfl)⟩
              refine L_v rfl rfl rfl (V_move rfl rfl) ?_
              apply L_and 6 72 79
              · rfl
              · rfl
              · rfl
              · rfl
              · rfl
              · rfl
              · rfl
              · kernel_rfl
              · intro hb8 _ _ hk8
                refine L_wv rfl rfl rfl rfl rfl rfl (V_fieldAddr rfl rfl Try.underlying30 rfl sz27wRoo rfl) ?_
                refine L_wv rfl rfl rfl rfl rfl rfl (V_load1 1 rfl rfl rfl Try.underlying27 rfl (by rfl)) ?_
                refine L_wv rfl rfl rfl rfl rfl rfl (V_len rfl rfl Try.underlying27 rfl) ?_
                refine L_wv rfl rfl rfl rfl rfl rfl (V_move rfl rfl) ?_
                refine L_wv rfl rfl rfl rfl rfl rfl (V_add rfl rfl rfl (by first | exact Go.IntWalk.i64_in _ (by omega) | rfl)) ?_
                refine L_wv rfl rfl rfl rfl rfl rfl (V_eql rfl rfl rfl (by first | exact decide_eq_true (by omega) | exact decide_eq_false (by omega) | rfl)) ?_
                exact hk8 _ ⟨rfl, rfl, rfl, rfl, ext_cut 6 (by kernel_rfl) (by kernel_rfl)⟩
              refine L_v rfl rfl rfl (V_move rfl rfl) ?_
              refine L_wv rfl rfl rfl rfl rfl rfl (V_fieldAddr rfl rfl Try.underlying30 rfl sz27wRoo rfl) ?_
              refine L_wv rfl rfl rfl rfl rfl rfl (V_load1 1 rfl rfl rfl Try.underlying27 rfl (by rfl)) ?_
              refine L_wv rfl rfl rfl rfl rfl rfl (V_move rfl rfl) ?_
              refine L_wv rfl rfl rfl rfl rfl rfl (V_indexC rfl rfl rfl Try.underlying27 sz39wRoo (fun w hw => (hw.fa 1 rfl).r.l.l.1) (by omega) (by omega)) ?_
              refine L_wv rfl rfl rfl rfl rfl rfl (V_fieldC rfl rfl (fun w hw => (let ⟨b, o, e, _⟩ := SlC.cell ((hw.fa 1 rfl).r.l.l.1) (rows_v (f := enW) env0 (i := N) (sz := 42) (fun _ => rfl) (by omega) 0 _ rfl); ⟨b, o, e⟩)) Try.underlying39 rfl sz3wRoo rfl) ?_
              refine L_wv rfl rfl rfl rfl rfl rfl (V_loadC rfl rfl Try.underlying3 rfl (fun w hw => (hw.fa 1 rfl).r.l.l.1) (rows_v (f := enW) env0 (i := N) (sz := 42) (fun _ => rfl) (by omega) 0 _ rfl)) ?_
              refine L_wv rfl rfl rfl rfl rfl rfl (V_move rfl rfl) ?_
              refine L_wv rfl rfl rfl rfl rfl rfl (V_add rfl rfl rfl (by first | exact Go.IntWalk.i64_in _ (by omega) | rfl)) ?_
              refine L_wv rfl rfl rfl rfl rfl rfl (V_eql rfl rfl rfl (by first | exact decide_eq_true (by omega) | exact decide_eq_false (by omega) | rfl)) ?_
              first | refine L_v rfl rfl rfl (V_pickT rfl rfl rfl) ?_ | refine L_v rfl rfl rfl (V_pickF rfl rfl rfl) ?_
              refine L_v rfl rfl rfl (V_assign rfl rfl) ?_
              refine L_nil ?_
              change J _ _ _ _
              refine J_ret ?_
              change Kret _ _ _ Exit.ret _
              refine ret1 rfl rfl (RV_t rfl) ?_
              exact fun w' h => ⟨rfl, h.fr⟩
        ·
          refine LO_s rfl rfl rfl (S_alloc rfl rfl rfl z30wRoo (fun b1 => ⟨(Pk.of_sub (List.Sublist.cons_cons _ (List.nil_sublist _))), (fun f hf => hf), ?_⟩))
          refine LO_s rfl rfl rfl (S_call rfl rfl rfl tx9wRoo (fun w1 hw => (fold_f (SR N) (pA q, pC q) spN (eR (enN ((N : Int) + 1))) spN spN spN spN w1 (faR (i := N) (s := (pA q, pC q)) (hw.fa 0 rfl).1) (.and clA_0 clA_0) (szR (by omega)) ⟨⟨Nat.zero_le _, Nat.zero_le _⟩, ⟨Nat.zero_le _, Nat.zero_le _⟩⟩).mono ?_))
          rintro e w' ⟨S', s', u', rfl, hfr, hn, hv⟩
          refine ⟨_, _, _, rfl, hw.newN hfr hn, rfl, (Pk.of_sub (List.Sublist.cons_cons _ (List.nil_sublist _))), (fun f hf => List.mem_append_left _ hf), ?_⟩
          refine LO_v rfl rfl rfl rfl (V_move rfl rfl) ?_
          refine LO_v rfl rfl rfl rfl (V_extract rfl rfl rfl) ?_
          refine LO_v rfl rfl rfl rfl (V_extract rfl rfl rfl) ?_
          refine LO_s rfl rfl rfl (S_storeW 1 rfl rfl rfl rfl rfl (szd sz30wRoo (by kernel_rfl)) (all_one (by kernel_rfl)) (by kernel_rfl) ⟨(Pk.of_sub (List.Sublist.cons_cons _ (List.nil_sublist _))), (fun f hf => List.mem_append_left _ hf), ?_⟩)
          refine LO_v rfl rfl rfl rfl (V_assign rfl rfl) ?_
          refine LO_nil ?_
          change J _ _ _ _
          refine J_seq ?_
          refine J_block ?_
          refine J_seq ?_
          refine J_region ?_
          refine L_v rfl rfl rfl (V_move rfl rfl) ?_
          refine L_v rfl rfl rfl (V_gtr rfl rfl rfl (by first | exact decide_eq_true (by omega) | exact decide_eq_false (by omega) | rfl)) ?_
          refine L_v rfl rfl rfl (V_assign rfl rfl) ?_
          refine L_nil ?_
          change J _ _ _ _
          refine J_cond rfl (fun h4 => ?_) (fun h4 => ?_)
          ·
            first | (have h4 := of_decide_eq_true h4) | (have h4 := of_decide_eq_false h4) | skip
            rw [if_neg (by omega)] at hck
            rw [if_pos (by omega)] at hfo
            refine J_seq ?_
            refine J_region ?_
            refine L_callV rfl rfl rfl rfl rfl rfl tx13wRoo (fun w1 hw => folds_w w1) ?_
            refine L_v rfl rfl rfl (V_move rfl rfl) ?_
            apply L_and 2 43 46
            · rfl
            · rfl
            · rfl
            · rfl
            · rfl
            · rfl
            · rfl
            · kernel_rfl
            · intro hb5 _ _ hk5
              refine L_wv rfl rfl rfl rfl rfl rfl (V_move rfl rfl) ?_
              refine L_wv rfl rfl rfl rfl rfl rfl (V_eql rfl rfl rfl (by first | exact decide_eq_true (by omega) | exact decide_eq_false (by omega) | rfl)) ?_
              exact hk5 _ ⟨rfl, rfl, rfl, rfl, ext_cut 2 (by kernel_rfl) (by kernel_rfl)⟩
            refine L_v rfl rfl rfl (V_move rfl rfl) ?_
            apply L_and 2 47 50
            · rfl
            · rfl
            · rfl
            · rfl
            · rfl
            · rfl
            · rfl
            · kernel_rfl
            · intro hb6 _ _ hk6
              refine L_wv rfl rfl rfl rfl rfl rfl (V_move rfl rfl) ?_
              refine L_wv rfl rfl rfl rfl rfl rfl (V_eql rfl rfl rfl (by first | exact decide_eq_true (by omega) | exact decide_eq_false (by omega) | rfl)) ?_
              exact hk6 _ ⟨rfl, rfl, rfl, rfl, ext_cut 2 (by kernel_rfl) (by kernel_rfl)⟩
            refine L_v rfl rfl rfl (V_assign rfl rfl) ?_
            refine L_nil ?_
            change J _ _ _ _
            refine J_ret ?_
            change Kret _ _ _ Exit.ret _
            refine ret1 rfl rfl (RV_t rfl) ?_
            exact fun w' h => ⟨rfl, h.fr⟩
          ·
            first | (have h4 := of_decide_eq_true h4) | (have h4 := of_decide_eq_false h4) | skip
            refine J_seq ?_
            refine J_region ?_
            refine L_v rfl rfl rfl (V_move rfl rfl) ?_
            refine L_v rfl rfl rfl (V_eql rfl rfl rfl (by first | exact decide_eq_true (by omega) | exact decide_eq_false (by omega) | rfl)) ?_
            refine L_v rfl rfl rfl (V_assign rfl rfl) ?_
            refine L_nil ?_
            change J _ _ _ _
            refine J_cond rfl (fun h5 => ?_) (fun h5 => ?_)
            ·
              first | (have h5 := of_decide_eq_true h5) | (have h5 := of_decide_eq_false h5) | skip
              rw [if_pos (by omega)] at hck
              rw [if_neg (by omega), if_pos (by omega)] at hfo
              refine J_seq ?_
              refine J_region ?_
              refine L_callV rfl rfl rfl rfl rfl rfl tx13wRoo (fun w1 hw => folds_w w1) ?_
              refine L_v rfl rfl rfl (V_move rfl rfl) ?_
              apply L_and 2 55 58
              · rfl
              · rfl
              · rfl
              · rfl
              · rfl
              · rfl
              · rfl
              · kernel_rfl
              · intro hb6 _ _ hk6
                refine L_wv rfl rfl rfl rfl rfl rfl (V_move rfl rfl) ?_
                refine L_wv rfl rfl rfl rfl rfl rfl (V_eql rfl rfl rfl (by first | exact decide_eq_true (by omega) | exact decide_eq_false (by omega) | rfl)) ?_
                exact hk6 _ ⟨rfl, rfl, rfl, rfl, ext_cut 2 (by kernel_rfl) (by kernel_rfl)⟩
              refine L_v rfl rfl rfl (V_move rfl rfl) ?_
              apply L_and 2 59 62
              · rfl
              · rfl
              · rfl
              · rfl
              · rfl
              · rfl
              · rfl
              · kernel_rfl
              · intro hb7 _ _ hk7
                refine L_wv rfl rfl rfl rfl rfl rfl (V_move rfl rfl) ?_
                refine L_wv rfl rfl rfl rfl rfl rfl (V_eql rfl rfl rfl (by first | exact decide_eq_true (by omega) | exact decide_eq_false (by omega) | rfl)) ?_
                exact hk7 _ ⟨rfl, rfl, rfl, rfl, ext_cut 2 (by kernel_rfl) (by kernel_rfl)⟩
              refine L_v rfl rfl rfl (V_assign rfl rfl) ?_
              refine L_nil ?_
              change J _ _ _ _
              refine J_ret ?_
              change Kret _ _ _ Exit.ret _
              refine ret1 rfl rfl (RV_t rfl) ?_
              exact fun w' h => ⟨rfl, h.fr⟩
            ·
              first | (have h5 := of_decide_eq_true h5) | (have h5 := of_decide_eq_false h5) | skip
              rw [if_pos (by omega)] at hck
              rw [if_neg (by omega), if_neg (by omega)] at hfo
              obtain ⟨hy1, hy2⟩ := yesR (i := N) (by omega) hv
              refine J_skip ?_
              change J _ _ _ _
              refine J_seq ?_
              refine J_region ?_
              refine L_callV rfl rfl rfl rfl rfl rfl tx13wRoo (fun w1 hw => folds_w w1) ?_
              refine L_v rfl rfl rfl (V_move rfl rfl) ?_
              apply L_and 2 64 67
              · rfl
              · rfl
              · rfl
              · rfl
              · rfl
              · rfl
              · rfl
              · kernel_rfl
              · intro hb6 _ _ hk6
                refine L_wv rfl rfl rfl rfl rfl rfl (V_move rfl rfl) ?_
                refine L_wv rfl rfl rfl rfl rfl rfl (V_eql rfl rfl rfl (by first | exact decide_eq_true (by omega) | exact decide_eq_false (by omega) | rfl)) ?_
                exact hk6 _ ⟨rfl, rfl, rfl, rfl, ext_cut 2 (by kernel_rfl) (by kernel_rfl)⟩
              refine L_v rfl rfl rfl (V_move rfl rfl) ?_
              apply L_and 2 68 71
              · rfl
              · rfl
              · rfl
              · rfl
              · rfl
              · rfl
              · rfl
              · kernel_rfl
              · intro hb7 _ _ hk7
                refine L_wv rfl rfl rfl rfl rfl rfl (V_move rfl rfl) ?_
                refine L_wv rfl rfl rfl rfl rfl rfl (V_eql rfl rfl rfl (by first | exact decide_eq_true (by omega) | exact decide_eq_false (by omega) | rfl)) ?_
                exact hk7 _ ⟨rfl, rfl, rfl, rfl, ext_cut 2 (by kernel_rfl) (by kernel_rfl)⟩
              refine L_v rfl rfl rfl (V_move rfl rfl) ?_
              apply L_and 6 72 79
              · rfl
              · rfl
              · rfl
              · rfl
              · rfl
              · rfl
              · rfl
              · kernel_rfl
              · intro hb8 _ _ hk8
                refine L_wv rfl rfl rfl rfl rfl rfl (V_fieldAddr rfl rfl Try.underlying30 rfl sz27wRoo rfl) ?_
                refine L_wv rfl rfl rfl rfl rfl rfl (V_load1 1 rfl rfl rfl Try.underlying27 rfl (by rfl)) ?_
                refine L_wv rfl rfl rfl rfl rfl rfl (V_len rfl rfl Try.underlying27 rfl) ?_
                refine L_wv rfl rfl rfl rfl rfl rfl (V_move rfl rfl) ?_
                refine L_wv rfl rfl rfl rfl rfl rfl (V_add rfl rfl rfl (by first | exact Go.IntWalk.i64_in _ (by omega) | rfl)) ?_
                refine L_wv rfl rfl rfl rfl rfl rfl (V_eql rfl rfl rfl (by first | exact decide_eq_true (by omega) | exact decide_eq_false (by omega) | rfl)) ?_
                exact hk8 _ ⟨rfl, rfl, rfl, rfl, ext_cut 6 (by kernel_rfl) (by kernel_rfl)⟩
              refine L_v rfl rfl rfl (V_move rfl rfl) ?_
              refine L_wv rfl rfl rfl rfl rfl rfl (V_fieldAddr rfl rfl Try.underlying30 rfl sz27wRoo rfl) ?_
              refine L_wv rfl rfl rfl rfl rfl rfl (V_load1 1 rfl rfl rfl Try.underlying27 rfl (by rfl)) ?_
              refine L_wv rfl rfl rfl rfl rfl rfl (V_move rfl rfl) ?_
              refine L_wv rfl rfl rfl rfl rfl rfl (V_indexC rfl rfl rfl Try.underlying27 sz39wRoo (fun w hw => (hw.fa 1 rfl).r.l.l.1) (by omega) (by omega)) ?_
              refine L_wv rfl rfl rfl rfl rfl rfl (V_fieldC rfl rfl (fun w hw => (let ⟨b, o, e, _⟩ := SlC.cell ((hw.fa 1 rfl).r.l.l.1) (rows_v (f := enW) env0 (i := N) (sz := 42) (fun _ => rfl) (by omega) 0 _ rfl); ⟨b, o, e⟩)) Try.underlying39 rfl sz3wRoo rfl) ?_
              refine L_wv rfl rfl rfl rfl rfl rfl (V_loadC rfl rfl Try.underlying3 rfl (fun w hw => (hw.fa 1 rfl).r.l.l.1) (rows_v (f := enW) env0 (i := N) (sz := 42) (fun _ => rfl) (by omega) 0 _ rfl)) ?_
              refine L_wv rfl rfl rfl rfl rfl rfl (V_move rfl rfl) ?_
              refine L_wv rfl rfl rfl rfl rfl rfl (V_add rfl rfl rfl (by first | exact Go.IntWalk.i64_in _ (by omega) | rfl)) ?_
              refine L_wv rfl rfl rfl rfl rfl rfl (V_eql rfl rfl rfl (by first | exact decide_eq_true (by omega) | exact decide_eq_false (by omega) | rfl)) ?_
              first | refine L_v rfl rfl rfl (V_pickT rfl rfl rfl) ?_ | refine L_v rfl rfl rfl (V_pickF rfl rfl rfl) ?_
              refine L_v rfl rfl rfl (V_assign rfl rfl) ?_
              refine L_nil ?_
              change J _ _ _ _
              refine J_ret ?_
              change Kret _ _ _ Exit.ret _
              refine ret1 rfl rfl (RV_t rfl) ?_
              exact fun w' h => ⟨rfl, h.fr⟩
      ·
        refine LO_s rfl rfl rfl (S_alloc rfl rfl rfl z30wRoo (fun b1 => ⟨(Pk.of_sub (List.Sublist.cons_cons _ (List.nil_sublist _))), (fun f hf => hf), ?_⟩))
        refine LO_callV rfl rfl rfl rfl rfl rfl rfl rfl tx14wRoo (fun w1 hw => entry_w ((N : Int) + 1) w1) (Pk.of_sub (List.Sublist.cons_cons _ (List.nil_sublist _))) (fun f hf => hf) ?_
        refine LO_s rfl rfl rfl (S_call rfl rfl rfl tx9wRoo (fun w1 hw => (fold_f (SR N) (pA q, pC q) spN (eR (enN ((N : Int) + 1))) spN spN spN spN w1 (faR (i := N) (s := (pA q, pC q)) (hw.fa 0 rfl).1) (.and clA_0 clA_0) (szR (by omega)) ⟨⟨Nat.zero_le _, Nat.zero_le _⟩, ⟨Nat.zero_le _, Nat.zero_le _⟩⟩).mono ?_))
        rintro e w' ⟨S', s', u', rfl, hfr, hn, hv⟩
        refine ⟨_, _, _, rfl, hw.newN hfr hn, rfl, (Pk.of_sub (List.Sublist.cons_cons _ (List.nil_sublist _))), (fun f hf => List.mem_append_left _ hf), ?_⟩
        refine LO_v rfl rfl rfl rfl (V_move rfl rfl) ?_
        refine LO_v rfl rfl rfl rfl (V_extract rfl rfl rfl) ?_
        refine LO_v rfl rfl rfl rfl (V_extract rfl rfl rfl) ?_
        refine LO_s rfl rfl rfl (S_storeW 1 rfl rfl rfl rfl rfl (szd sz30wRoo (by kernel_rfl)) (all_one (by kernel_rfl)) (by kernel_rfl) ⟨(Pk.of_sub (List.Sublist.cons_cons _ (List.nil_sublist _))), (fun f hf => List.mem_append_left _ hf), ?_⟩)
        refine LO_v rfl rfl rfl rfl (V_assign rfl rfl) ?_
        refine LO_nil ?_
        change J _ _ _ _
        refine J_seq ?_
        refine J_block ?_
        refine J_seq ?_
        refine J_region ?_
        refine L_v rfl rfl rfl (V_move rfl rfl) ?_
        refine L_v rfl rfl rfl (V_gtr rfl rfl rfl (by first | exact decide_eq_true (by omega) | exact decide_eq_false (by omega) | rfl)) ?_
        refine L_v rfl rfl rfl (V_assign rfl rfl) ?_
        refine L_nil ?_
        change J _ _ _ _
        refine J_cond rfl (fun h4 => ?_) (fun h4 => ?_)
        ·
          first | (have h4 := of_decide_eq_true h4) | (have h4 := of_decide_eq_false h4) | skip
          rw [if_neg (by omega)] at hck
          rw [if_pos (by omega)] at hfo
          refine J_seq ?_
          refine J_region ?_
          refine L_callV rfl rfl rfl rfl rfl rfl tx13wRoo (fun w1 hw => folds_w w1) ?_
          refine L_v rfl rfl rfl (V_move rfl rfl) ?_
          apply L_and 2 43 46
          · rfl
          · rfl
          · rfl
          · rfl
          · rfl
          · rfl
          · rfl
          · kernel_rfl
          · intro hb5 _ _ hk5
            refine L_wv rfl rfl rfl rfl rfl rfl (V_move rfl rfl) ?_
            refine L_wv rfl rfl rfl rfl rfl rfl (V_eql rfl rfl rfl (by first | exact decide_eq_true (by omega) | exact decide_eq_false (by omega) | rfl)) ?_
            exact hk5 _ ⟨rfl, rfl, rfl, rfl, ext_cut 2 (by kernel_rfl) (by kernel_rfl)⟩
          refine L_v rfl rfl rfl (V_move rfl rfl) ?_
          apply L_and 2 47 50
          · rfl
          · rfl
          · rfl
          · rfl
          · rfl
          · rfl
          · rfl
          · kernel_rfl
          · intro hb6 _ _ hk6
            refine L_wv rfl rfl rfl rfl rfl rfl (V_move rfl rfl) ?_
            refine L_wv rfl rfl rfl rfl rfl rfl (V_eql rfl rfl rfl (by first | exact decide_eq_true (by omega) | exact decide_eq_false (by omega) | rfl)) ?_
            exact hk6 _ ⟨rfl, rfl, rfl, rfl, ext_cut 2 (by kernel_rfl) (by kernel_rfl)⟩
          refine L_v rfl rfl rfl (V_assign rfl rfl) ?_
          refine L_nil ?_
          change J _ _ _ _
          refine J_ret ?_
          change Kret _ _ _ Exit.ret _
          refine ret1 rfl rfl (RV_t rfl) ?_
          exact fun w' h => ⟨rfl, h.fr⟩
        ·
          first | (have h4 := of_decide_eq_true h4) | (have h4 := of_decide_eq_false h4) | skip
          refine J_seq ?_
          refine J_region ?_
          refine L_v rfl rfl rfl (V_move rfl rfl) ?_
          refine L_v rfl rfl rfl (V_eql rfl rfl rfl (by first | exact decide_eq_true (by omega) | exact decide_eq_false (by omega) | rfl)) ?_
          refine L_v rfl rfl rfl (V_assign rfl rfl) ?_
          refine L_nil ?_
          change J _ _ _ _
          refine J_cond rfl (fun h5 => ?_) (fun h5 => ?_)
          ·
            first | (have h5 := of_decide_eq_true h5) | (have h5 := of_decide_eq_false h5) | skip
            rw [if_pos (by omega)] at hck
            rw [if_neg (by omega), if_pos (by omega)] at hfo
            refine J_seq ?_
            refine J_region ?_
            refine L_callV rfl rfl rfl rfl rfl rfl tx13wRoo (fun w1 hw => folds_w w1) ?_
            refine L_v rfl rfl rfl (V_move rfl rfl) ?_
            apply L_and 2 55 58
            · rfl
            · rfl
            · rfl
            · rfl
            · rfl
            · rfl
            · rfl
            · kernel_rfl
            · intro hb6 _ _ hk6
              refine L_wv rfl rfl rfl rfl rfl rfl (V_move rfl rfl) ?_
              refine L_wv rfl rfl rfl rfl rfl rfl (V_eql rfl rfl rfl (by first | exact decide_eq_true (by omega) | exact decide_eq_false (by omega) | rfl)) ?_
              exact hk6 _ ⟨rfl, rfl, rfl, rfl, ext_cut 2 (by kernel_rfl) (by kernel_rfl)⟩
            refine L_v rfl rfl rfl (V_move rfl rfl) ?_
            apply L_and 2 59 62
            · rfl
            · rfl
            · rfl
            · rfl
            · rfl
            · rfl
            · rfl
            · kernel_rfl
            · intro hb7 _ _ hk7
              refine L_wv rfl rfl rfl rfl rfl rfl (V_move rfl rfl) ?_
              refine L_wv rfl rfl rfl rfl rfl rfl (V_eql rfl rfl rfl (by first | exact decide_eq_true (by omega) | exact decide_eq_false (by omega) | rfl)) ?_
              exact hk7 _ ⟨rfl, rfl, rfl, rfl, ext_cut 2 (by kernel_rfl) (by kernel_rfl)⟩
            refine L_v rfl rfl rfl (V_assign rfl rfl) ?_
            refine L_nil ?_
            change J _ _ _ _
            refine J_ret ?_
            change Kret _ _ _ Exit.ret _
            refine ret1 rfl rfl (RV_t rfl) ?_
            exact fun w' h => ⟨rfl, h.fr⟩
          ·
            first | (have h5 := of_decide_eq_true h5) | (have h5 := of_decide_eq_false h5) | skip
            rw [if_pos (by omega)] at hck
            rw [if_neg (by omega), if_neg (by omega)] at hfo
            obtain ⟨hy1, hy2⟩ := yesR (i := N) (by omega) hv
            refine J_skip ?_
            change J _ _ _ _
            refine J_seq ?_
            refine J_region ?_
            refine L_callV rfl rfl rfl rfl rfl rfl tx13wRoo (fun w1 hw => folds_w w1) ?_
            refine L_v rfl rfl rfl (V_move rfl rfl) ?_
            apply L_and 2 64 67
            · rfl
            · rfl
            · rfl
            · rfl
            · rfl
            · rfl
            · rfl
            · kernel_rfl
            · intro hb6 _ _ hk6
              refine L_wv rfl rfl rfl rfl rfl rfl (V_move rfl rfl) ?_
              refine L_wv rfl rfl rfl rfl rfl rfl (V_eql rfl rfl rfl (by first | exact decide_eq_true (by omega) | exact decide_eq_false (by omega) | rfl)) ?_
              exact hk6 _ ⟨rfl, rfl, rfl, rfl, ext_cut 2 (by kernel_rfl) (by kernel_rfl)⟩
            refine L_v rfl rfl rfl (V_move rfl rfl) ?_
            apply L_and 2 68 71
            · rfl
            · rfl
            · rfl
            · rfl
            · rfl
            · rfl
            · rfl
            · kernel_rfl
            · intro hb7 _ _ hk7
              refine L_wv rfl rfl rfl rfl rfl rfl (V_move rfl rfl) ?_
              refine L_wv rfl rfl rfl rfl rfl rfl (V_eql rfl rfl rfl (by first | exact decide_eq_true (by omega) | exact decide_eq_false (by omega) | rfl)) ?_
              exact hk7 _ ⟨rfl, rfl, rfl, rfl, ext_cut 2 (by kernel_rfl) (by kernel_rfl)⟩
            refine L_v rfl rfl rfl (V_move rfl rfl) ?_
            apply L_and 6 72 79
            · rfl
            · rfl
            · rfl
            · rfl
            · rfl
            · rfl
            · rfl
            · kernel_rfl
            · intro hb8 _ _ hk8
              refine L_wv rfl rfl rfl rfl rfl rfl (V_fieldAddr rfl rfl Try.underlying30 rfl sz27wRoo rfl) ?_
              refine L_wv rfl rfl rfl rfl rfl rfl (V_load1 1 rfl rfl rfl Try.underlying27 rfl (by rfl)) ?_
              refine L_wv rfl rfl rfl rfl rfl rfl (V_len rfl rfl Try.underlying27 rfl) ?_
              refine L_wv rfl rfl rfl rfl rfl rfl (V_move rfl rfl) ?_
              refine L_wv rfl rfl rfl rfl rfl rfl (V_add rfl rfl rfl (by first | exact Go.IntWalk.i64_in _ (by omega) | rfl)) ?_
              refine L_wv rfl rfl rfl rfl rfl rfl (V_eql rfl rfl rfl (by first | exact decide_eq_true (by omega) | exact decide_eq_false (by omega) | rfl)) ?_
              exact hk8 _ ⟨rfl, rfl, rfl, rfl, ext_cut 6 (by kernel_rfl) (by kernel_rfl)⟩
            refine L_v rfl rfl rfl (V_move rfl rfl) ?_
            refine L_wv rfl rfl rfl rfl rfl rfl (V_fieldAddr rfl rfl Try.underlying30 rfl sz27wRoo rfl) ?_
            refine L_wv rfl rfl rfl rfl rfl rfl (V_load1 1 rfl rfl rfl Try.underlying27 rfl (by rfl)) ?_
            refine L_wv rfl rfl rfl rfl rfl rfl (V_move rfl rfl) ?_
            refine L_wv rfl rfl rfl rfl rfl rfl (V_indexC rfl rfl rfl Try.underlying27 sz39wRoo (fun w hw => (hw.fa 1 rfl).r.l.l.1) (by omega) (by omega)) ?_
            refine L_wv rfl rfl rfl rfl rfl rfl (V_fieldC rfl rfl (fun w hw => (let ⟨b, o, e, _⟩ := SlC.cell ((hw.fa 1 rfl).r.l.l.1) (rows_v (f := enW) env0 (i := N) (sz := 42) (fun _ => rfl) (by omega) 0 _ rfl); ⟨b, o, e⟩)) Try.underlying39 rfl sz3wRoo rfl) ?_
            refine L_wv rfl rfl rfl rfl rfl rfl (V_loadC rfl rfl Try.underlying3 rfl (fun w hw => (hw.fa 1 rfl).r.l.l.1) (rows_v (f := enW) env0 (i := N) (sz := 42) (fun _ => rfl) (by omega) 0 _ rfl)) ?_
            refine L_wv rfl rfl rfl rfl rfl rfl (V_move rfl rfl) ?_
            refine L_wv rfl rfl rfl rfl rfl rfl (V_add rfl rfl rfl (by first | exact Go.IntWalk.i64_in _ (by omega) | rfl)) ?_
            refine L_wv rfl rfl rfl rfl rfl rfl (V_eql rfl rfl rfl (by first | exact decide_eq_true (by omega) | exact decide_eq_false (by omega) | rfl)) ?_
            first | refine L_v rfl rfl rfl (V_pickT rfl rfl rfl) ?_ | refine L_v rfl rfl rfl (V_pickF rfl rfl rfl) ?_
            refine L_v rfl rfl rfl (V_assign rfl rfl) ?_
            refine L_nil ?_
            change J _ _ _ _
            refine J_ret ?_
            change Kret _ _ _ Exit.ret _
            refine ret1 rfl rfl (RV_t rfl) ?_
            exact fun w' h => ⟨rfl, h.fr⟩

end Go.Proofs.Ytcdenfkbhefbbaa
