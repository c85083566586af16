/- The law VaultRight: its walk. -/
import Derived.Test.YtcdenfkbhefbbaaV12
set_option linter.unusedVariables false
set_option linter.unusedSimpArgs false
set_option maxRecDepth 100000
namespace Go.Proofs.Ytcdenfkbhefbbaa
open Go.Sx
theorem szV_fold {s : Sv} {r : Rec} (h : SzV s) (hB : SzC r.2.2.2.1.2.2.2.2 ∧ SzC r.2.2.2.2.2.1.2.2.1) (hi : -9223372036854775808 ≤ r.2.2.2.1.1 ∧ r.2.2.2.1.1 ≤ 9223372036854775807) (h1 : s.ents.length ≤ 400) (h2 : s.sgs.length ≤ 400) : SzV (foldS s r) := by
  obtain ⟨a, b, c, d, e⟩ := h
  unfold foldS
  split
  · exact ⟨a, b, c, d, e⟩
  · split
    · refine ⟨a, fun x hx => ?_, by show (s.ents ++ [r.2.2.2.1]).length ≤ _; rw [List.length_append, List.length_singleton]; omega, d, fun x hx => ?_⟩
      · rcases List.mem_append.1 (show x ∈ s.ents ++ [r.2.2.2.1] from hx) with h | h
        · exact b x h
        · obtain rfl := List.mem_singleton.1 h
          exact hB.1
      · rcases List.mem_append.1 (show x ∈ s.ents ++ [r.2.2.2.1] from hx) with h | h
        · exact e x h
        · obtain rfl := List.mem_singleton.1 h
          exact hi
    · split
      · exact ⟨a, fun x hx => b x (List.mem_of_mem_take (show x ∈ s.ents.take _ from hx)), by show (s.ents.take _).length ≤ _; rw [List.length_take]; omega, d, fun x hx => e x (List.mem_of_mem_take (show x ∈ s.ents.take _ from hx))⟩
      · split
        · exact ⟨hB.2, fun x hx => b x (List.mem_of_mem_drop (show x ∈ s.ents.drop _ from hx)), by show (s.ents.drop _).length ≤ _; rw [List.length_drop]; omega, d, fun x hx => e x (List.mem_of_mem_drop (show x ∈ s.ents.drop _ from hx))⟩
        · exact ⟨a, b, c, by show (s.sgs ++ [r.2.2.2.2.2.2]).length ≤ _; rw [List.length_append, List.length_singleton]; omega, e⟩
theorem sz3wRig : (Try.prog.info? 3).map (·.size) = some 1 := by kernel_rfl
theorem sz26wRig : (Try.prog.info? 26).map (·.size) = some 5 := by kernel_rfl
theorem sz27wRig : (Try.prog.info? 27).map (·.size) = some 1 := by kernel_rfl
theorem sz28wRig : (Try.prog.info? 28).map (·.size) = some 1 := by kernel_rfl
theorem sz30wRig : (Try.prog.info? 30).map (·.size) = some 9 := by kernel_rfl
theorem sz31wRig : (Try.prog.info? 31).map (·.size) = some 1 := by kernel_rfl
theorem sz39wRig : (Try.prog.info? 39).map (·.size) = some 43 := by kernel_rfl
theorem sz43wRig : (Try.prog.info? 43).map (·.size) = some 97 := by kernel_rfl
theorem sz45wRig : (Try.prog.info? 45).map (·.size) = some 149 := by kernel_rfl
theorem tx6wRig : Txt Try.prog 6 := txt_of Try.func6 rfl (by kernel_rfl)
theorem tx8wRig : Txt Try.prog 8 := txt_of Try.func8 rfl (by kernel_rfl)
theorem tx9wRig : Txt Try.prog 9 := txt_of Try.func9 rfl (by kernel_rfl)
theorem tx13wRig : Txt Try.prog 13 := txt_of Try.func13 rfl (by kernel_rfl)
theorem z30wRig : (Try.prog.info? 30).bind (·.zero) = some (.agg [.int .i64 0, .int .i64 0, .int .i64 0, .int .i64 0, .slice none 0 0, .slice none 0 0, .string ByteArray.empty, .slice none 0 0, .slice none 0 0].toArray) := by kernel_rfl

set_option maxHeartbeats 4000000 in
theorem VaultRight_w (S : SvS) (s s3 : Sp) (r : Rec) (ra rb rc rd : Sp) (w : World) (f1 : FA w (svF S s s3)) (hz : SzB S) (f2 : FA w (rcA (r, ra, rb, rc, rd))) (hB : SzC r.2.2.2.1.2.2.2.2 ∧ SzC r.2.2.2.2.2.1.2.2.1) (hi : -9223372036854775808 ≤ r.2.2.2.1.1 ∧ r.2.2.2.1.1 ≤ 9223372036854775807) :
    Calls Try.prog 4 #[.agg (svX S s s3).toArray, .agg (recX r ra rb rc rd).toArray] w fun e w' => e = .returned (.bool true) ∧ Fr [] w w' := by
  have hR : SzR r := ⟨hB.1, hB.2⟩
  refine calls_of (args := [.agg (svX S s s3).toArray, .agg (recX r ra rb rc rd).toArray]) ([]) ([]) ([svF S s s3, rcA (r, ra, rb, rc, rd)]) Try.func4 rfl rfl (okFW (.cons f1 (.cons f2 .nil))) ?_
  refine J_seq ?_
  refine J_region ?_
  refine L_box rfl rfl rfl rfl rfl (fun b0 => ?_)
  refine L_box rfl rfl rfl rfl rfl (fun b1 => ?_)
  refine L_v rfl rfl rfl (V_assign rfl rfl) ?_
  refine L_nil ?_
  change J _ _ _ _
  refine J_seq ?_
  refine J_seq ?_
  refine J_region ?_
  refine L_v rfl rfl rfl (V_loadT 0 (vs := svC S.t S.v S.sn S.a S.b (.slice s.1 S.es.length s.2) (.slice s3.1 S.gl.length s3.2)) rfl rfl rfl Try.underlying30 rfl sz30wRig (by kernel_rfl) (by kernel_rfl)) ?_
  refine L_v rfl rfl rfl (V_loadT 1 (vs := recX r ra rb rc rd) rfl rfl rfl Try.underlying45 rfl sz45wRig (by kernel_rfl) (by kernel_rfl)) ?_
  refine L_call rfl rfl rfl rfl tx6wRig (fun w1 hw => (large_w S s s3 r ra rb rc rd w1 (hw.fa 0 rfl) hz hR).mono ?_)
  rintro e w' ⟨bl, rfl, hfr, hlg⟩
  refine ⟨_, _, _, rfl, hw.fr0 hfr, rfl, ?_⟩
  refine L_nil ?_
  change J _ _ _ _
  refine J_cond rfl (fun h1 => ?_) (fun h1 => ?_)
  ·
    first | (have h1 := of_decide_eq_true h1) | (have h1 := of_decide_eq_false h1) | skip
    refine J_seq ?_
    refine J_region ?_
    refine L_v rfl rfl rfl (V_assign rfl rfl) ?_
    refine L_nil ?_
    change J _ _ _ _
    refine J_ret ?_
    change Kret _ _ _ Exit.ret _
    refine ret1 rfl rfl (RV_t rfl) ?_
    exact fun w' h => ⟨rfl, h.fr⟩
  ·
    first | (have h1 := of_decide_eq_true h1) | (have h1 := of_decide_eq_false h1) | skip
    obtain ⟨hl1, hl2⟩ := hlg h1
    have hV := hz.V hl1 hl2
    refine J_skip ?_
    change J _ _ _ _
    refine J_seq ?_
    refine J_region ?_
    refine L_v rfl rfl rfl (V_loadT 0 (vs := svC S.t S.v S.sn S.a S.b (.slice s.1 S.es.length s.2) (.slice s3.1 S.gl.length s3.2)) rfl rfl rfl Try.underlying30 rfl sz30wRig (by kernel_rfl) (by kernel_rfl)) ?_
    refine L_v rfl rfl rfl (V_loadT 1 (vs := recX r ra rb rc rd) rfl rfl rfl Try.underlying45 rfl sz45wRig (by kernel_rfl) (by kernel_rfl)) ?_
    refine L_call rfl rfl rfl rfl tx9wRig (fun w1 hw => (fold_f S s s3 r ra rb rc rd w1 (hw.fa 0 rfl) (hw.fa 1 rfl) hV hB).mono ?_)
    rintro e w' ⟨S', s', u', rfl, hfr, hn, hv⟩
    refine ⟨_, _, _, rfl, hw.newN hfr hn, rfl, ?_⟩
    refine L_v rfl rfl rfl (V_move rfl rfl) ?_
    refine L_v rfl rfl rfl (V_extract rfl rfl rfl) ?_
    refine L_v rfl rfl rfl (V_extract rfl rfl rfl) ?_
    refine L_alloc rfl rfl rfl rfl z30wRig (fun b2 => ?_)
    refine L_storeW 2 rfl rfl rfl rfl rfl rfl (szd sz30wRig (by kernel_rfl)) (all_one (by kernel_rfl)) (by kernel_rfl) ?_
    refine L_v rfl rfl rfl (V_assign rfl rfl) ?_
    refine L_nil ?_
    change J _ _ _ _
    refine J_seq ?_
    refine J_seq ?_
    refine J_region ?_
    refine L_v rfl rfl rfl (V_move rfl rfl) ?_
    refine L_v rfl rfl rfl (V_neq rfl rfl rfl (by first | exact decide_eq_true (by omega) | exact decide_eq_false (by omega) | rfl)) ?_
    refine L_nil ?_
    change J _ _ _ _
    refine J_cond rfl (fun h2 => ?_) (fun h2 => ?_)
    ·
      first | (have h2 := of_decide_eq_true h2) | (have h2 := of_decide_eq_false h2) | skip
      have hv0 : S'.sv = sv0 := by rw [hv]; unfold foldV; rw [if_neg h2]
      have hle : S'.es.length = 0 := ent_len hv0
      have ht0 : S'.t = 0 := congrArg Sv.term hv0
      refine J_seq ?_
      refine J_region ?_
      refine L_callV rfl rfl rfl rfl rfl rfl tx13wRig (fun w1 hw => folds_w w1) ?_
      refine L_v rfl rfl rfl (V_move rfl rfl) ?_
      apply L_and 4 23 28
      · rfl
      · rfl
      · rfl
      · rfl
      · rfl
      · rfl
      · rfl
      · kernel_rfl
      · intro hb3 _ _ hk3
        refine L_wv rfl rfl rfl rfl rfl rfl (V_fieldAddr rfl rfl Try.underlying30 rfl sz27wRig rfl) ?_
        refine L_wv rfl rfl rfl rfl rfl rfl (V_load1 2 rfl rfl rfl Try.underlying27 rfl (by rfl)) ?_
        refine L_wv rfl rfl rfl rfl rfl rfl (V_len rfl rfl Try.underlying27 rfl) ?_
        refine L_wv rfl rfl rfl rfl rfl rfl (V_eql rfl rfl rfl (by first | exact decide_eq_true (by omega) | exact decide_eq_false (by omega) | rfl)) ?_
        exact hk3 _ ⟨rfl, rfl, rfl, rfl, ext_cut 4 (by kernel_rfl) (by kernel_rfl)⟩
      refine L_v rfl rfl rfl (V_move rfl rfl) ?_
      apply L_and 3 29 33
      · rfl
      · rfl
      · rfl
      · rfl
      · rfl
      · rfl
      · rfl
      · kernel_rfl
      · intro hb4 _ _ hk4
        refine L_wv rfl rfl rfl rfl rfl rfl (V_fieldAddr rfl rfl Try.underlying30 rfl sz3wRig rfl) ?_
        refine L_wv rfl rfl rfl rfl rfl rfl (V_load1 2 rfl rfl rfl Try.underlying3 rfl (by rfl)) ?_
        refine L_wv rfl rfl rfl rfl rfl rfl (V_eql rfl rfl rfl (by first | exact decide_eq_true (by omega) | exact decide_eq_false (by omega) | rfl)) ?_
        exact hk4 _ ⟨rfl, rfl, rfl, rfl, ext_cut 3 (by kernel_rfl) (by kernel_rfl)⟩
      refine L_v rfl rfl rfl (V_assign rfl rfl) ?_
      refine L_nil ?_
      change J _ _ _ _
      refine J_ret ?_
      change Kret _ _ _ Exit.ret _
      refine ret1 rfl rfl (RV_t rfl) ?_
      exact fun w' h => ⟨rfl, h.fr⟩
    ·
      first | (have h2 := of_decide_eq_true h2) | (have h2 := of_decide_eq_false h2) | skip
      have h2 : foldQ S.sv r = 0 := Classical.not_not.1 h2
      have hv1 : S'.sv = foldS S.sv r := by rw [hv]; unfold foldV; rw [if_pos h2]
      obtain ⟨hRf, ktm, kln, hgi, k2, k3, k4, k5⟩ := fold_last h2
      rw [← hv1] at hRf ktm kln hgi k2 k3 k4 k5
      have hz' : SzS S' := SzV.S (by rw [hv1]; exact szV_fold hV hB hi (by rw [svEnts]; exact hl1) hl2)
      have hc := chk_right.2 hRf
      obtain ⟨bb1, bb2, bb3, bb4⟩ := base_go (foldQ_0 h2).1.1
      obtain ⟨bb5, bb6, bb7, bb8⟩ := base_go hRf.1
      have ktm : S.t ≤ S'.t := ktm
      have kln : S.gl.length ≤ S'.gl.length := kln
      have hgi : ∀ i, i < S.gl.length → S'.gl.getD i sg0 = S.gl.getD i sg0 := hgi
      rw [svLast, svLast] at k2 k4 k5
      rw [svLast] at k3
      refine J_skip ?_
      change J _ _ _ _
      refine J_seq ?_
      refine J_region ?_
      refine L_v rfl rfl rfl (V_fieldAddr rfl rfl Try.underlying30 rfl sz26wRig rfl) ?_
      refine L_v rfl rfl rfl (V_fieldAddr rfl rfl Try.underlying26 rfl sz3wRig rfl) ?_
      refine L_v rfl rfl rfl (V_load1 0 rfl rfl rfl Try.underlying3 rfl (by rfl)) ?_
      refine L_v rfl rfl rfl (V_fieldAddr rfl rfl Try.underlying30 rfl sz27wRig rfl) ?_
      refine L_v rfl rfl rfl (V_load1 0 rfl rfl rfl Try.underlying27 rfl (by rfl)) ?_
      refine L_v rfl rfl rfl (V_len rfl rfl Try.underlying27 rfl) ?_
      refine L_v rfl rfl rfl (V_add rfl rfl rfl (by first | exact Go.IntWalk.i64_in _ (by omega) | rfl)) ?_
      refine L_v rfl rfl rfl (V_assign rfl rfl) ?_
      refine L_nil ?_
      change J _ _ _ _
      refine J_seq ?_
      refine J_region ?_
      refine L_v rfl rfl rfl (V_fieldAddr rfl rfl Try.underlying30 rfl sz26wRig rfl) ?_
      refine L_v rfl rfl rfl (V_fieldAddr rfl rfl Try.underlying26 rfl sz3wRig rfl) ?_
      refine L_v rfl rfl rfl (V_load1 2 rfl rfl rfl Try.underlying3 rfl (by rfl)) ?_
      refine L_v rfl rfl rfl (V_fieldAddr rfl rfl Try.underlying30 rfl sz27wRig rfl) ?_
      refine L_v rfl rfl rfl (V_load1 2 rfl rfl rfl Try.underlying27 rfl (by rfl)) ?_
      refine L_v rfl rfl rfl (V_len rfl rfl Try.underlying27 rfl) ?_
      refine L_v rfl rfl rfl (V_add rfl rfl rfl (by first | exact Go.IntWalk.i64_in _ (by omega) | rfl)) ?_
      refine L_v rfl rfl rfl (V_assign rfl rfl) ?_
      refine L_nil ?_
      change J _ _ _ _
      refine J_seq ?_
      refine J_region ?_
      refine L_v rfl rfl rfl (V_loadT 2 (vs := svC (S'.t) (S'.v) (S'.sn) (S'.a) (S'.b) (.slice s'.1 S'.es.length s'.2) (.slice u'.1 S'.gl.length u'.2)) rfl rfl rfl Try.underlying30 rfl sz30wRig (by kernel_rfl) (by kernel_rfl)) ?_
      refine L_callV rfl rfl rfl rfl rfl rfl tx8wRig (fun w1 hw => check_w S'.t S'.v S'.sn S'.a S'.b S'.es s' S'.gl u' w1 (hw.fa 2 rfl).l (hw.fa 2 rfl).r.l (hw.fa 2 rfl).r.r hz'.1 hz'.2.2.1 hz'.2.2.2.1 hz'.2.2.2.2) ?_
      refine L_v rfl rfl rfl (V_eql rfl rfl rfl (by first | exact decide_eq_true (by omega) | exact decide_eq_false (by omega) | rfl)) ?_
      refine L_v rfl rfl rfl (V_move rfl rfl) ?_
      apply L_and 5 51 57
      · rfl
      · rfl
      · rfl
      · rfl
      · rfl
      · rfl
      · rfl
      · kernel_rfl
      · intro hb3 _ _ hk3
        refine L_wv rfl rfl rfl rfl rfl rfl (V_fieldAddr rfl rfl Try.underlying30 rfl sz3wRig rfl) ?_
        refine L_wv rfl rfl rfl rfl rfl rfl (V_load1 2 rfl rfl rfl Try.underlying3 rfl (by rfl)) ?_
        refine L_wv rfl rfl rfl rfl rfl rfl (V_fieldAddr rfl rfl Try.underlying30 rfl sz3wRig rfl) ?_
        refine L_wv rfl rfl rfl rfl rfl rfl (V_load1 0 rfl rfl rfl Try.underlying3 rfl (by rfl)) ?_
        refine L_wv rfl rfl rfl rfl rfl rfl (V_geq rfl rfl rfl (by first | exact decide_eq_true (by omega) | exact decide_eq_false (by omega) | rfl)) ?_
        exact hk3 _ ⟨rfl, rfl, rfl, rfl, ext_cut 5 (by kernel_rfl) (by kernel_rfl)⟩
      refine L_v rfl rfl rfl (V_move rfl rfl) ?_
      apply L_and 7 58 66
      · rfl
      · rfl
      · rfl
      · rfl
      · rfl
      · rfl
      · rfl
      · kernel_rfl
      · intro hb4 _ _ hk4
        refine L_wv rfl rfl rfl rfl rfl rfl (V_fieldAddr rfl rfl Try.underlying30 rfl sz28wRig rfl) ?_
        refine L_wv rfl rfl rfl rfl rfl rfl (V_load1 2 rfl rfl rfl Try.underlying28 rfl (by rfl)) ?_
        refine L_wv rfl rfl rfl rfl rfl rfl (V_len rfl rfl Try.underlying28 rfl) ?_
        refine L_wv rfl rfl rfl rfl rfl rfl (V_fieldAddr rfl rfl Try.underlying30 rfl sz28wRig rfl) ?_
        refine L_wv rfl rfl rfl rfl rfl rfl (V_load1 0 rfl rfl rfl Try.underlying28 rfl (by rfl)) ?_
        refine L_wv rfl rfl rfl rfl rfl rfl (V_len rfl rfl Try.underlying28 rfl) ?_
        refine L_wv rfl rfl rfl rfl rfl rfl (V_geq rfl rfl rfl (by first | exact decide_eq_true (by omega) | exact decide_eq_false (by omega) | rfl)) ?_
        exact hk4 _ ⟨rfl, rfl, rfl, rfl, ext_cut 7 (by kernel_rfl) (by kernel_rfl)⟩
      refine L_v rfl rfl rfl (V_assign rfl rfl) ?_
      refine L_nil ?_
      change J _ _ _ _
      refine J_seq ?_
      refine J_seq ?_
      refine J_region ?_
      refine L_v rfl rfl rfl (V_fieldAddr rfl rfl Try.underlying45 rfl sz31wRig rfl) ?_
      refine L_v rfl rfl rfl (V_load1 1 rfl rfl rfl Try.underlying31 rfl (by rfl)) ?_
      refine L_nil ?_
      change J _ _ _ _
      refine J_block ?_
      refine J_seq ?_
      refine J_region ?_
      refine L_v rfl rfl rfl (V_eql rfl rfl rfl (by first | exact decide_eq_true (by omega) | exact decide_eq_false (by omega) | rfl)) ?_
      refine L_v rfl rfl rfl (V_assign rfl rfl) ?_
      refine L_nil ?_
      change J _ _ _ _
      refine J_cond rfl (fun h5 => ?_) (fun h5 => ?_)
      ·
        first | (have h5 := of_decide_eq_true h5) | (have h5 := of_decide_eq_false h5) | skip
        obtain ⟨k6, k7⟩ := k2 h5
        refine J_region ?_
        refine L_v rfl rfl rfl (V_move rfl rfl) ?_
        refine L_v rfl rfl rfl (V_move rfl rfl) ?_
        apply L_and 5 78 84
        · rfl
        · rfl
        · rfl
        · rfl
        · rfl
        · rfl
        · rfl
        · kernel_rfl
        · intro hb6 _ _ hk6
          refine L_wv rfl rfl rfl rfl rfl rfl (V_move rfl rfl) ?_
          refine L_wv rfl rfl rfl rfl rfl rfl (V_fieldAddr rfl rfl Try.underlying45 rfl sz39wRig rfl) ?_
          refine L_wv rfl rfl rfl rfl rfl rfl (V_fieldAddr rfl rfl Try.underlying39 rfl sz3wRig rfl) ?_
          refine L_wv rfl rfl rfl rfl rfl rfl (V_load1 1 rfl rfl rfl Try.underlying3 rfl (by rfl)) ?_
          refine L_wv rfl rfl rfl rfl rfl rfl (V_eql rfl rfl rfl (by first | exact decide_eq_true (by omega) | exact decide_eq_false (by omega) | rfl)) ?_
          exact hk6 _ ⟨rfl, rfl, rfl, rfl, ext_cut 5 (by kernel_rfl) (by kernel_rfl)⟩
        refine L_v rfl rfl rfl (V_move rfl rfl) ?_
        apply L_and 4 85 90
        · rfl
        · rfl
        · rfl
        · rfl
        · rfl
        · rfl
        · rfl
        · kernel_rfl
        · intro hb7 _ _ hk7
          refine L_wv rfl rfl rfl rfl rfl rfl (V_move rfl rfl) ?_
          refine L_wv rfl rfl rfl rfl rfl rfl (V_sub rfl rfl rfl (by first | exact Go.IntWalk.i64_in _ (by omega) | rfl)) ?_
          refine L_wv rfl rfl rfl rfl rfl rfl (V_move rfl rfl) ?_
          refine L_wv rfl rfl rfl rfl rfl rfl (V_eql rfl rfl rfl (by first | exact decide_eq_true (by omega) | exact decide_eq_false (by omega) | rfl)) ?_
          exact hk7 _ ⟨rfl, rfl, rfl, rfl, ext_cut 4 (by kernel_rfl) (by kernel_rfl)⟩
        refine L_v rfl rfl rfl (V_assign rfl rfl) ?_
        refine L_nil ?_
        change J _ _ _ _
        refine J_seq ?_
        refine J_seq ?_
        refine J_region ?_
        refine L_v rfl rfl rfl (V_assign rfl rfl) ?_
        refine L_nil ?_
        change J _ _ _ _
        refine J_block ?_
        refine J_loop (X := Nat) (fun i => { env := [(2, .pointer (some ⟨b0, 0, none⟩)), (3, .pointer (some ⟨b1, 0, none⟩)), (5, .pointer (some ⟨b2, 0, none⟩)), (9, .bool true), (10, .int .i64 (i : Int))], mem := [(b0, row 30 (svX S s s3)), (b1, row 45 (recX r ra rb rc rd)), (b2, row 30 (svX S' s' u'))], facts := [svF S s s3, rcA (r, ra, rb, rc, rd), svF S' s' u'] }) (fun i => i ≤ S.gl.length) (fun i => S.gl.length - i) 0 (Nat.zero_le _) ⟨⟨rfl, rfl, rfl, rfl, rfl, trivial⟩, List.Sublist.refl _, fun f hf => hf, rfl⟩ ?_
        rintro i hil
        try simp only at hil ⊢
        refine J_seq ?_
        refine J_seq ?_
        refine J_region ?_
        refine L_v rfl rfl rfl (V_move rfl rfl) ?_
        refine L_v rfl rfl rfl (V_fieldAddr rfl rfl Try.underlying30 rfl sz28wRig rfl) ?_
        refine L_v rfl rfl rfl (V_load1 0 rfl rfl rfl Try.underlying28 rfl (by rfl)) ?_
        refine L_v rfl rfl rfl (V_len rfl rfl Try.underlying28 rfl) ?_
        refine L_v rfl rfl rfl (V_lss rfl rfl rfl (by first | exact decide_eq_true (by omega) | exact decide_eq_false (by omega) | rfl)) ?_
        refine L_v rfl rfl rfl (V_move rfl rfl) ?_
        apply L_and 5 130 136
        · rfl
        · rfl
        · rfl
        · rfl
        · rfl
        · rfl
        · rfl
        · kernel_rfl
        · intro hb8 _ _ hk8
          refine L_wv rfl rfl rfl rfl rfl rfl (V_move rfl rfl) ?_
          refine L_wv rfl rfl rfl rfl rfl rfl (V_fieldAddr rfl rfl Try.underlying30 rfl sz28wRig rfl) ?_
          refine L_wv rfl rfl rfl rfl rfl rfl (V_load1 2 rfl rfl rfl Try.underlying28 rfl (by rfl)) ?_
          refine L_wv rfl rfl rfl rfl rfl rfl (V_len rfl rfl Try.underlying28 rfl) ?_
          refine L_wv rfl rfl rfl rfl rfl rfl (V_lss rfl rfl rfl (by first | exact decide_eq_true (by omega) | exact decide_eq_false (by omega) | rfl)) ?_
          exact hk8 _ ⟨rfl, rfl, rfl, rfl, ext_cut 5 (by kernel_rfl) (by kernel_rfl)⟩
        refine L_nil ?_
        change J _ _ _ _
        refine J_cond rfl (fun h9 => ?_) (fun h9 => ?_)
        ·
          first | (have h9 := of_decide_eq_true h9) | (have h9 := of_decide_eq_false h9) | skip
          rw [Bool.and_eq_true, decide_eq_true_eq, decide_eq_true_eq] at h9
          obtain ⟨hi1, hi2⟩ := h9
          refine J_skip ?_
          change J _ _ _ _
          refine J_seq ?_
          refine J_block ?_
          refine J_regionQ rfl (by kernel_rfl) ?_
          refine LQ_v rfl rfl rfl (V_move rfl rfl) ?_
          refine LQ_v rfl rfl rfl (V_move rfl rfl) ?_
          refine LQ_wv rfl rfl rfl rfl rfl rfl (V_fieldAddr rfl rfl Try.underlying30 rfl sz28wRig rfl) ?_
          refine LQ_wv rfl rfl rfl rfl rfl rfl (V_load1 2 rfl rfl rfl Try.underlying28 rfl (by rfl)) ?_
          refine LQ_wv rfl rfl rfl rfl rfl rfl (V_move rfl rfl) ?_
          refine LQ_wv rfl rfl rfl rfl rfl rfl (V_indexC rfl rfl rfl Try.underlying28 sz43wRig (fun w hw => (hw.fa 2 rfl).r.r.1) (by omega) (by omega)) ?_
          refine LQ_wv rfl rfl rfl rfl rfl rfl (V_loadCN (vs := sgV (S'.gl.getD i sg0)) rfl rfl Try.underlying43 rfl (szd sz43wRig (by kernel_rfl)) (fun w hw => (hw.fa 2 rfl).r.r.1) (by exact Nat.zero_lt_succ _) (rows_v (f := sgV) sg0 (sz := 96) (fun _ => rfl) (by omega))) ?_
          refine LQ_wv rfl rfl rfl rfl rfl rfl (V_fieldAddr rfl rfl Try.underlying30 rfl sz28wRig rfl) ?_
          refine LQ_wv rfl rfl rfl rfl rfl rfl (V_load1 0 rfl rfl rfl Try.underlying28 rfl (by rfl)) ?_
          refine LQ_wv rfl rfl rfl rfl rfl rfl (V_move rfl rfl) ?_
          refine LQ_wv rfl rfl rfl rfl rfl rfl (V_indexC rfl rfl rfl Try.underlying28 sz43wRig (fun w hw => (hw.fa 0 rfl).r.r.1) (by omega) (by omega)) ?_
          refine LQ_wv rfl rfl rfl rfl rfl rfl (V_loadCN (vs := sgV (S.gl.getD i sg0)) rfl rfl Try.underlying43 rfl (szd sz43wRig (by kernel_rfl)) (fun w hw => (hw.fa 0 rfl).r.r.1) (by exact Nat.zero_lt_succ _) (rows_v (f := sgV) sg0 (sz := 96) (fun _ => rfl) (by omega))) ?_
          refine LQ_wv rfl rfl rfl rfl rfl rfl (V_eqAgg rfl rfl rfl (by kernel_rfl : Try.prog.eqGuardType Try.prog.depth 43 = false) (fun w => eqSgDO _ _ w) rfl) ?_
          first | refine LQ_v rfl rfl rfl (V_pickT rfl rfl rfl) ?_ | refine LQ_v rfl rfl rfl (V_pickF rfl rfl rfl) ?_
          refine LQ_v rfl rfl rfl (V_assign rfl rfl) ?_
          refine LQ_nil ?_
          change J _ _ _ _
          refine J_region ?_
          refine L_v rfl rfl rfl (V_move rfl rfl) ?_
          refine L_v rfl rfl rfl (V_add rfl rfl rfl (by first | exact Go.IntWalk.i64_in _ (by omega) | rfl)) ?_
          refine L_v rfl rfl rfl (V_assign rfl rfl) ?_
          refine L_nil ?_
          exact ⟨i + 1, by show i + 1 ≤ S.gl.length; omega, by show S.gl.length - (i + 1) < S.gl.length - i; omega, ⟨rfl, rfl, rfl, (by show some (Value.bool (decide _)) = some (Value.bool true); rw [decide_eq_true (hgi i (by omega))]), rfl, trivial⟩, List.Sublist.refl _, fun f hf => hf, rfl⟩
        ·
          first | (have h9 := of_decide_eq_true h9) | (have h9 := of_decide_eq_false h9) | skip
          refine J_exit ?_
          change J _ _ _ _
          refine J_seq ?_
          refine J_region ?_
          refine L_callV rfl rfl rfl rfl rfl rfl tx13wRig (fun w1 hw => folds_w w1) ?_
          refine L_v rfl rfl rfl (V_move rfl rfl) ?_
          apply L_and 1 154 156
          · rfl
          · rfl
          · rfl
          · rfl
          · rfl
          · rfl
          · rfl
          · kernel_rfl
          · intro hb10 _ _ hk10
            refine L_wv rfl rfl rfl rfl rfl rfl (V_move rfl rfl) ?_
            exact hk10 _ ⟨rfl, rfl, rfl, rfl, ext_cut 1 (by kernel_rfl) (by kernel_rfl)⟩
          refine L_v rfl rfl rfl (V_assign rfl rfl) ?_
          refine L_nil ?_
          change J _ _ _ _
          refine J_ret ?_
          change Kret _ _ _ Exit.ret _
          refine ret1 rfl rfl (RV_t rfl) ?_
          exact fun w' h => ⟨rfl, h.fr⟩
      ·
        first | (have h5 := of_decide_eq_true h5) | (have h5 := of_decide_eq_false h5) | skip
        refine J_seq ?_
        refine J_region ?_
        refine L_v rfl rfl rfl (V_eql rfl rfl rfl (by first | exact decide_eq_true (by omega) | exact decide_eq_false (by omega) | rfl)) ?_
        refine L_v rfl rfl rfl (V_assign rfl rfl) ?_
        refine L_nil ?_
        change J _ _ _ _
        refine J_cond rfl (fun h6 => ?_) (fun h6 => ?_)
        ·
          first | (have h6 := of_decide_eq_true h6) | (have h6 := of_decide_eq_false h6) | skip
          have k6 := k3 h6
          refine J_region ?_
          refine L_v rfl rfl rfl (V_move rfl rfl) ?_
          refine L_v rfl rfl rfl (V_move rfl rfl) ?_
          apply L_and 5 94 100
          · rfl
          · rfl
          · rfl
          · rfl
          · rfl
          · rfl
          · rfl
          · kernel_rfl
          · intro hb7 _ _ hk7
            refine L_wv rfl rfl rfl rfl rfl rfl (V_move rfl rfl) ?_
            refine L_wv rfl rfl rfl rfl rfl rfl (V_fieldAddr rfl rfl Try.underlying45 rfl sz3wRig rfl) ?_
            refine L_wv rfl rfl rfl rfl rfl rfl (V_load1 1 rfl rfl rfl Try.underlying3 rfl (by rfl)) ?_
            refine L_wv rfl rfl rfl rfl rfl rfl (V_sub rfl rfl rfl (by first | exact Go.IntWalk.i64_in _ (by omega) | rfl)) ?_
            refine L_wv rfl rfl rfl rfl rfl rfl (V_eql rfl rfl rfl (by first | exact decide_eq_true (by omega) | exact decide_eq_false (by omega) | rfl)) ?_
            exact hk7 _ ⟨rfl, rfl, rfl, rfl, ext_cut 5 (by kernel_rfl) (by kernel_rfl)⟩
          refine L_v rfl rfl rfl (V_assign rfl rfl) ?_
          refine L_nil ?_
          change J _ _ _ _
          refine J_seq ?_
          refine J_seq ?_
          refine J_region ?_
          refine L_v rfl rfl rfl (V_assign rfl rfl) ?_
          refine L_nil ?_
          change J _ _ _ _
          refine J_block ?_
          refine J_loop (X := Nat) (fun i => { env := [(2, .pointer (some ⟨b0, 0, none⟩)), (3, .pointer (some ⟨b1, 0, none⟩)), (5, .pointer (some ⟨b2, 0, none⟩)), (9, .bool true), (10, .int .i64 (i : Int))], mem := [(b0, row 30 (svX S s s3)), (b1, row 45 (recX r ra rb rc rd)), (b2, row 30 (svX S' s' u'))], facts := [svF S s s3, rcA (r, ra, rb, rc, rd), svF S' s' u'] }) (fun i => i ≤ S.gl.length) (fun i => S.gl.length - i) 0 (Nat.zero_le _) ⟨⟨rfl, rfl, rfl, rfl, rfl, trivial⟩, List.Sublist.refl _, fun f hf => hf, rfl⟩ ?_
          rintro i hil
          try simp only at hil ⊢
          refine J_seq ?_
          refine J_seq ?_
          refine J_region ?_
          refine L_v rfl rfl rfl (V_move rfl rfl) ?_
          refine L_v rfl rfl rfl (V_fieldAddr rfl rfl Try.underlying30 rfl sz28wRig rfl) ?_
          refine L_v rfl rfl rfl (V_load1 0 rfl rfl rfl Try.underlying28 rfl (by rfl)) ?_
          refine L_v rfl rfl rfl (V_len rfl rfl Try.underlying28 rfl) ?_
          refine L_v rfl rfl rfl (V_lss rfl rfl rfl (by first | exact decide_eq_true (by omega) | exact decide_eq_false (by omega) | rfl)) ?_
          refine L_v rfl rfl rfl (V_move rfl rfl) ?_
          apply L_and 5 130 136
          · rfl
          · rfl
          · rfl
          · rfl
          · rfl
          · rfl
          · rfl
          · kernel_rfl
          · intro hb8 _ _ hk8
            refine L_wv rfl rfl rfl rfl rfl rfl (V_move rfl rfl) ?_
            refine L_wv rfl rfl rfl rfl rfl rfl (V_fieldAddr rfl rfl Try.underlying30 rfl sz28wRig rfl) ?_
            refine L_wv rfl rfl rfl rfl rfl rfl (V_load1 2 rfl rfl rfl Try.underlying28 rfl (by rfl)) ?_
            refine L_wv rfl rfl rfl rfl rfl rfl (V_len rfl rfl Try.underlying28 rfl) ?_
            refine L_wv rfl rfl rfl rfl rfl rfl (V_lss rfl rfl rfl (by first | exact decide_eq_true (by omega) | exact decide_eq_false (by omega) | rfl)) ?_
            exact hk8 _ ⟨rfl, rfl, rfl, rfl, ext_cut 5 (by kernel_rfl) (by kernel_rfl)⟩
          refine L_nil ?_
          change J _ _ _ _
          refine J_cond rfl (fun h9 => ?_) (fun h9 => ?_)
          ·
            first | (have h9 := of_decide_eq_true h9) | (have h9 := of_decide_eq_false h9) | skip
            rw [Bool.and_eq_true, decide_eq_true_eq, decide_eq_true_eq] at h9
            obtain ⟨hi1, hi2⟩ := h9
            refine J_skip ?_
            change J _ _ _ _
            refine J_seq ?_
            refine J_block ?_
            refine J_regionQ rfl (by kernel_rfl) ?_
            refine LQ_v rfl rfl rfl (V_move rfl rfl) ?_
            refine LQ_v rfl rfl rfl (V_move rfl rfl) ?_
            refine LQ_wv rfl rfl rfl rfl rfl rfl (V_fieldAddr rfl rfl Try.underlying30 rfl sz28wRig rfl) ?_
            refine LQ_wv rfl rfl rfl rfl rfl rfl (V_load1 2 rfl rfl rfl Try.underlying28 rfl (by rfl)) ?_
            refine LQ_wv rfl rfl rfl rfl rfl rfl (V_move rfl rfl) ?_
            refine LQ_wv rfl rfl rfl rfl rfl rfl (V_indexC rfl rfl rfl Try.underlying28 sz43wRig (fun w hw => (hw.fa 2 rfl).r.r.1) (by omega) (by omega)) ?_
            refine LQ_wv rfl rfl rfl rfl rfl rfl (V_loadCN (vs := sgV (S'.gl.getD i sg0)) rfl rfl Try.underlying43 rfl (szd sz43wRig (by kernel_rfl)) (fun w hw => (hw.fa 2 rfl).r.r.1) (by exact Nat.zero_lt_succ _) (rows_v (f := sgV) sg0 (sz := 96) (fun _ => rfl) (by omega))) ?_
            refine LQ_wv rfl rfl rfl rfl rfl rfl (V_fieldAddr rfl rfl Try.underlying30 rfl sz28wRig rfl) ?_
            refine LQ_wv rfl rfl rfl rfl rfl rfl (V_load1 0 rfl rfl rfl Try.underlying28 rfl (by rfl)) ?_
            refine LQ_wv rfl rfl rfl rfl rfl rfl (V_move rfl rfl) ?_
            refine LQ_wv rfl rfl rfl rfl rfl rfl (V_indexC rfl rfl rfl Try.underlying28 sz43wRig (fun w hw => (hw.fa 0 rfl).r.r.1) (by omega) (by omega)) ?_
            refine LQ_wv rfl rfl rfl rfl rfl rfl (V_loadCN (vs := sgV (S.gl.getD i sg0)) rfl rfl Try.underlying43 rfl (szd sz43wRig (by kernel_rfl)) (fun w hw => (hw.fa 0 rfl).r.r.1) (by exact Nat.zero_lt_succ _) (rows_v (f := sgV) sg0 (sz := 96) (fun _ => rfl) (by omega))) ?_
            refine LQ_wv rfl rfl rfl rfl rfl rfl (V_eqAgg rfl rfl rfl (by kernel_rfl : Try.prog.eqGuardType Try.prog.depth 43 = false) (fun w => eqSgDO _ _ w) rfl) ?_
            first | refine LQ_v rfl rfl rfl (V_pickT rfl rfl rfl) ?_ | refine LQ_v rfl rfl rfl (V_pickF rfl rfl rfl) ?_
            refine LQ_v rfl rfl rfl (V_assign rfl rfl) ?_
            refine LQ_nil ?_
            change J _ _ _ _
            refine J_region ?_
            refine L_v rfl rfl rfl (V_move rfl rfl) ?_
            refine L_v rfl rfl rfl (V_add rfl rfl rfl (by first | exact Go.IntWalk.i64_in _ (by omega) | rfl)) ?_
            refine L_v rfl rfl rfl (V_assign rfl rfl) ?_
            refine L_nil ?_
            exact ⟨i + 1, by show i + 1 ≤ S.gl.length; omega, by show S.gl.length - (i + 1) < S.gl.length - i; omega, ⟨rfl, rfl, rfl, (by show some (Value.bool (decide _)) = some (Value.bool true); rw [decide_eq_true (hgi i (by omega))]), rfl, trivial⟩, List.Sublist.refl _, fun f hf => hf, rfl⟩
          ·
            first | (have h9 := of_decide_eq_true h9) | (have h9 := of_decide_eq_false h9) | skip
            refine J_exit ?_
            change J _ _ _ _
            refine J_seq ?_
            refine J_region ?_
            refine L_callV rfl rfl rfl rfl rfl rfl tx13wRig (fun w1 hw => folds_w w1) ?_
            refine L_v rfl rfl rfl (V_move rfl rfl) ?_
            apply L_and 1 154 156
            · rfl
            · rfl
            · rfl
            · rfl
            · rfl
            · rfl
            · rfl
            · kernel_rfl
            · intro hb10 _ _ hk10
              refine L_wv rfl rfl rfl rfl rfl rfl (V_move rfl rfl) ?_
              exact hk10 _ ⟨rfl, rfl, rfl, rfl, ext_cut 1 (by kernel_rfl) (by kernel_rfl)⟩
            refine L_v rfl rfl rfl (V_assign rfl rfl) ?_
            refine L_nil ?_
            change J _ _ _ _
            refine J_ret ?_
            change Kret _ _ _ Exit.ret _
            refine ret1 rfl rfl (RV_t rfl) ?_
            exact fun w' h => ⟨rfl, h.fr⟩
        ·
          first | (have h6 := of_decide_eq_true h6) | (have h6 := of_decide_eq_false h6) | skip
          refine J_seq ?_
          refine J_region ?_
          refine L_v rfl rfl rfl (V_eql rfl rfl rfl (by first | exact decide_eq_true (by omega) | exact decide_eq_false (by omega) | rfl)) ?_
          refine L_v rfl rfl rfl (V_assign rfl rfl) ?_
          refine L_nil ?_
          change J _ _ _ _
          refine J_cond rfl (fun h7 => ?_) (fun h7 => ?_)
          ·
            first | (have h7 := of_decide_eq_true h7) | (have h7 := of_decide_eq_false h7) | skip
            obtain ⟨k6, k7⟩ := k4 h7
            have k6 : S'.sn.1 = r.2.2.2.2.2.1.1 := k6
            refine J_region ?_
            refine L_v rfl rfl rfl (V_move rfl rfl) ?_
            refine L_v rfl rfl rfl (V_move rfl rfl) ?_
            apply L_and 7 104 112
            · rfl
            · rfl
            · rfl
            · rfl
            · rfl
            · rfl
            · rfl
            · kernel_rfl
            · intro hb8 _ _ hk8
              refine L_wv rfl rfl rfl rfl rfl rfl (V_fieldAddr rfl rfl Try.underlying30 rfl sz26wRig rfl) ?_
              refine L_wv rfl rfl rfl rfl rfl rfl (V_fieldAddr rfl rfl Try.underlying26 rfl sz3wRig rfl) ?_
              refine L_wv rfl rfl rfl rfl rfl rfl (V_load1 2 rfl rfl rfl Try.underlying3 rfl (by rfl)) ?_
              refine L_wv rfl rfl rfl rfl rfl rfl (V_fieldAddr rfl rfl Try.underlying45 rfl sz26wRig rfl) ?_
              refine L_wv rfl rfl rfl rfl rfl rfl (V_fieldAddr rfl rfl Try.underlying26 rfl sz3wRig rfl) ?_
              refine L_wv rfl rfl rfl rfl rfl rfl (V_load1 1 rfl rfl rfl Try.underlying3 rfl (by rfl)) ?_
              refine L_wv rfl rfl rfl rfl rfl rfl (V_eql rfl rfl rfl (by first | exact decide_eq_true (by omega) | exact decide_eq_false (by omega) | rfl)) ?_
              exact hk8 _ ⟨rfl, rfl, rfl, rfl, ext_cut 7 (by kernel_rfl) (by kernel_rfl)⟩
            refine L_v rfl rfl rfl (V_move rfl rfl) ?_
            refine L_wv rfl rfl rfl rfl rfl rfl (V_move rfl rfl) ?_
            refine L_wv rfl rfl rfl rfl rfl rfl (V_move rfl rfl) ?_
            refine L_wv rfl rfl rfl rfl rfl rfl (V_eql rfl rfl rfl (by first | exact decide_eq_true (by omega) | exact decide_eq_false (by omega) | rfl)) ?_
            refine L_wv rfl rfl rfl rfl rfl rfl (V_move rfl rfl) ?_
            refine L_split 117 rfl (fun h9 => ?_) (fun h9 => ?_)
            ·
              first | (have h9 := of_decide_eq_true h9) | (have h9 := of_decide_eq_false h9) | skip
              refine L_skip rfl rfl rfl rfl rfl rfl rfl ?_
              refine L_skip rfl rfl rfl rfl rfl rfl rfl ?_
              refine L_skip rfl rfl rfl rfl rfl rfl rfl ?_
              refine L_skip rfl rfl rfl rfl rfl rfl rfl ?_
              refine L_skip rfl rfl rfl rfl rfl rfl rfl ?_
              first | refine L_wv rfl rfl rfl rfl rfl rfl (V_pickT rfl rfl rfl) ?_ | refine L_wv rfl rfl rfl rfl rfl rfl (V_pickF rfl rfl rfl) ?_
              first | refine L_v rfl rfl rfl (V_pickT rfl rfl rfl) ?_ | refine L_v rfl rfl rfl (V_pickF rfl rfl rfl) ?_
              refine L_v rfl rfl rfl (V_assign rfl rfl) ?_
              refine L_nil ?_
              change J _ _ _ _
              refine J_seq ?_
              refine J_seq ?_
              refine J_region ?_
              refine L_v rfl rfl rfl (V_assign rfl rfl) ?_
              refine L_nil ?_
              change J _ _ _ _
              refine J_block ?_
              refine J_loop (X := Nat) (fun i => { env := [(2, .pointer (some ⟨b0, 0, none⟩)), (3, .pointer (some ⟨b1, 0, none⟩)), (5, .pointer (some ⟨b2, 0, none⟩)), (9, .bool true), (10, .int .i64 (i : Int))], mem := [(b0, row 30 (svX S s s3)), (b1, row 45 (recX r ra rb rc rd)), (b2, row 30 (svX S' s' u'))], facts := [svF S s s3, rcA (r, ra, rb, rc, rd), svF S' s' u'] }) (fun i => i ≤ S.gl.length) (fun i => S.gl.length - i) 0 (Nat.zero_le _) ⟨⟨rfl, rfl, rfl, rfl, rfl, trivial⟩, List.Sublist.refl _, fun f hf => hf, rfl⟩ ?_
              rintro i hil
              try simp only at hil ⊢
              refine J_seq ?_
              refine J_seq ?_
              refine J_region ?_
              refine L_v rfl rfl rfl (V_move rfl rfl) ?_
              refine L_v rfl rfl rfl (V_fieldAddr rfl rfl Try.underlying30 rfl sz28wRig rfl) ?_
              refine L_v rfl rfl rfl (V_load1 0 rfl rfl rfl Try.underlying28 rfl (by rfl)) ?_
              refine L_v rfl rfl rfl (V_len rfl rfl Try.underlying28 rfl) ?_
              refine L_v rfl rfl rfl (V_lss rfl rfl rfl (by first | exact decide_eq_true (by omega) | exact decide_eq_false (by omega) | rfl)) ?_
              refine L_v rfl rfl rfl (V_move rfl rfl) ?_
              apply L_and 5 130 136
              · rfl
              · rfl
              · rfl
              · rfl
              · rfl
              · rfl
              · rfl
              · kernel_rfl
              · intro hb10 _ _ hk10
                refine L_wv rfl rfl rfl rfl rfl rfl (V_move rfl rfl) ?_
                refine L_wv rfl rfl rfl rfl rfl rfl (V_fieldAddr rfl rfl Try.underlying30 rfl sz28wRig rfl) ?_
                refine L_wv rfl rfl rfl rfl rfl rfl (V_load1 2 rfl rfl rfl Try.underlying28 rfl (by rfl)) ?_
                refine L_wv rfl rfl rfl rfl rfl rfl (V_len rfl rfl Try.underlying28 rfl) ?_
                refine L_wv rfl rfl rfl rfl rfl rfl (V_lss rfl rfl rfl (by first | exact decide_eq_true (by omega) | exact decide_eq_false (by omega) | rfl)) ?_
                exact hk10 _ ⟨rfl, rfl, rfl, rfl, ext_cut 5 (by kernel_rfl) (by kernel_rfl)⟩
              refine L_nil ?_
              change J _ _ _ _
              refine J_cond rfl (fun h11 => ?_) (fun h11 => ?_)
              ·
                first | (have h11 := of_decide_eq_true h11) | (have h11 := of_decide_eq_false h11) | skip
                rw [Bool.and_eq_true, decide_eq_true_eq, decide_eq_true_eq] at h11
                obtain ⟨hi1, hi2⟩ := h11
                refine J_skip ?_
                change J _ _ _ _
                refine J_seq ?_
                refine J_block ?_
                refine J_regionQ rfl (by kernel_rfl) ?_
                refine LQ_v rfl rfl rfl (V_move rfl rfl) ?_
                refine LQ_v rfl rfl rfl (V_move rfl rfl) ?_
                refine LQ_wv rfl rfl rfl rfl rfl rfl (V_fieldAddr rfl rfl Try.underlying30 rfl sz28wRig rfl) ?_
                refine LQ_wv rfl rfl rfl rfl rfl rfl (V_load1 2 rfl rfl rfl Try.underlying28 rfl (by rfl)) ?_
                refine LQ_wv rfl rfl rfl rfl rfl rfl (V_move rfl rfl) ?_
                refine LQ_wv rfl rfl rfl rfl rfl rfl (V_indexC rfl rfl rfl Try.underlying28 sz43wRig (fun w hw => (hw.fa 2 rfl).r.r.1) (by omega) (by omega)) ?_
                refine LQ_wv rfl rfl rfl rfl rfl rfl (V_loadCN (vs := sgV (S'.gl.getD i sg0)) rfl rfl Try.underlying43 rfl (szd sz43wRig (by kernel_rfl)) (fun w hw => (hw.fa 2 rfl).r.r.1) (by exact Nat.zero_lt_succ _) (rows_v (f := sgV) sg0 (sz := 96) (fun _ => rfl) (by omega))) ?_
                refine LQ_wv rfl rfl rfl rfl rfl rfl (V_fieldAddr rfl rfl Try.underlying30 rfl sz28wRig rfl) ?_
                refine LQ_wv rfl rfl rfl rfl rfl rfl (V_load1 0 rfl rfl rfl Try.underlying28 rfl (by rfl)) ?_
                refine LQ_wv rfl rfl rfl rfl rfl rfl (V_move rfl rfl) ?_
                refine LQ_wv rfl rfl rfl rfl rfl rfl (V_indexC rfl rfl rfl Try.underlying28 sz43wRig (fun w hw => (hw.fa 0 rfl).r.r.1) (by omega) (by omega)) ?_
                refine LQ_wv rfl rfl rfl rfl rfl rfl (V_loadCN (vs := sgV (S.gl.getD i sg0)) rfl rfl Try.underlying43 rfl (szd sz43wRig (by kernel_rfl)) (fun w hw => (hw.fa 0 rfl).r.r.1) (by exact Nat.zero_lt_succ _) (rows_v (f := sgV) sg0 (sz := 96) (fun _ => rfl) (by omega))) ?_
                refine LQ_wv rfl rfl rfl rfl rfl rfl (V_eqAgg rfl rfl rfl (by kernel_rfl : Try.prog.eqGuardType Try.prog.depth 43 = false) (fun w => eqSgDO _ _ w) rfl) ?_
                first | refine LQ_v rfl rfl rfl (V_pickT rfl rfl rfl) ?_ | refine LQ_v rfl rfl rfl (V_pickF rfl rfl rfl) ?_
                refine LQ_v rfl rfl rfl (V_assign rfl rfl) ?_
                refine LQ_nil ?_
                change J _ _ _ _
                refine J_region ?_
                refine L_v rfl rfl rfl (V_move rfl rfl) ?_
                refine L_v rfl rfl rfl (V_add rfl rfl rfl (by first | exact Go.IntWalk.i64_in _ (by omega) | rfl)) ?_
                refine L_v rfl rfl rfl (V_assign rfl rfl) ?_
                refine L_nil ?_
                exact ⟨i + 1, by show i + 1 ≤ S.gl.length; omega, by show S.gl.length - (i + 1) < S.gl.length - i; omega, ⟨rfl, rfl, rfl, (by show some (Value.bool (decide _)) = some (Value.bool true); rw [decide_eq_true (hgi i (by omega))]), rfl, trivial⟩, List.Sublist.refl _, fun f hf => hf, rfl⟩
              ·
                first | (have h11 := of_decide_eq_true h11) | (have h11 := of_decide_eq_false h11) | skip
                refine J_exit ?_
                change J _ _ _ _
                refine J_seq ?_
                refine J_region ?_
                refine L_callV rfl rfl rfl rfl rfl rfl tx13wRig (fun w1 hw => folds_w w1) ?_
                refine L_v rfl rfl rfl (V_move rfl rfl) ?_
                apply L_and 1 154 156
                · rfl
                · rfl
                · rfl
                · rfl
                · rfl
                · rfl
                · rfl
                · kernel_rfl
                · intro hb12 _ _ hk12
                  refine L_wv rfl rfl rfl rfl rfl rfl (V_move rfl rfl) ?_
                  exact hk12 _ ⟨rfl, rfl, rfl, rfl, ext_cut 1 (by kernel_rfl) (by kernel_rfl)⟩
                refine L_v rfl rfl rfl (V_assign rfl rfl) ?_
                refine L_nil ?_
                change J _ _ _ _
                refine J_ret ?_
                change Kret _ _ _ Exit.ret _
                refine ret1 rfl rfl (RV_t rfl) ?_
                exact fun w' h => ⟨rfl, h.fr⟩
            ·
              first | (have h9 := of_decide_eq_true h9) | (have h9 := of_decide_eq_false h9) | skip
              refine L_wv rfl rfl rfl rfl rfl rfl (V_move rfl rfl) ?_
              refine L_wv rfl rfl rfl rfl rfl rfl (V_fieldAddr rfl rfl Try.underlying45 rfl sz26wRig rfl) ?_
              refine L_wv rfl rfl rfl rfl rfl rfl (V_fieldAddr rfl rfl Try.underlying26 rfl sz3wRig rfl) ?_
              refine L_wv rfl rfl rfl rfl rfl rfl (V_load1 1 rfl rfl rfl Try.underlying3 rfl (by rfl)) ?_
              refine L_wv rfl rfl rfl rfl rfl rfl (V_eql rfl rfl rfl (by first | exact decide_eq_true (by omega) | exact decide_eq_false (by omega) | rfl)) ?_
              first | refine L_wv rfl rfl rfl rfl rfl rfl (V_pickT rfl rfl rfl) ?_ | refine L_wv rfl rfl rfl rfl rfl rfl (V_pickF rfl rfl rfl) ?_
              first | refine L_v rfl rfl rfl (V_pickT rfl rfl rfl) ?_ | refine L_v rfl rfl rfl (V_pickF rfl rfl rfl) ?_
              refine L_v rfl rfl rfl (V_assign rfl rfl) ?_
              refine L_nil ?_
              change J _ _ _ _
              refine J_seq ?_
              refine J_seq ?_
              refine J_region ?_
              refine L_v rfl rfl rfl (V_assign rfl rfl) ?_
              refine L_nil ?_
              change J _ _ _ _
              refine J_block ?_
              refine J_loop (X := Nat) (fun i => { env := [(2, .pointer (some ⟨b0, 0, none⟩)), (3, .pointer (some ⟨b1, 0, none⟩)), (5, .pointer (some ⟨b2, 0, none⟩)), (9, .bool true), (10, .int .i64 (i : Int))], mem := [(b0, row 30 (svX S s s3)), (b1, row 45 (recX r ra rb rc rd)), (b2, row 30 (svX S' s' u'))], facts := [svF S s s3, rcA (r, ra, rb, rc, rd), svF S' s' u'] }) (fun i => i ≤ S.gl.length) (fun i => S.gl.length - i) 0 (Nat.zero_le _) ⟨⟨rfl, rfl, rfl, rfl, rfl, trivial⟩, List.Sublist.refl _, fun f hf => hf, rfl⟩ ?_
              rintro i hil
              try simp only at hil ⊢
              refine J_seq ?_
              refine J_seq ?_
              refine J_region ?_
              refine L_v rfl rfl rfl (V_move rfl rfl) ?_
              refine L_v rfl rfl rfl (V_fieldAddr rfl rfl Try.underlying30 rfl sz28wRig rfl) ?_
              refine L_v rfl rfl rfl (V_load1 0 rfl rfl rfl Try.underlying28 rfl (by rfl)) ?_
              refine L_v rfl rfl rfl (V_len rfl rfl Try.underlying28 rfl) ?_
              refine L_v rfl rfl rfl (V_lss rfl rfl rfl (by first | exact decide_eq_true (by omega) | exact decide_eq_false (by omega) | rfl)) ?_
              refine L_v rfl rfl rfl (V_move rfl rfl) ?_
              apply L_and 5 130 136
              · rfl
              · rfl
              · rfl
              · rfl
              · rfl
              · rfl
              · rfl
              · kernel_rfl
              · intro hb10 _ _ hk10
                refine L_wv rfl rfl rfl rfl rfl rfl (V_move rfl rfl) ?_
                refine L_wv rfl rfl rfl rfl rfl rfl (V_fieldAddr rfl rfl Try.underlying30 rfl sz28wRig rfl) ?_
                refine L_wv rfl rfl rfl rfl rfl rfl (V_load1 2 rfl rfl rfl Try.underlying28 rfl (by rfl)) ?_
                refine L_wv rfl rfl rfl rfl rfl rfl (V_len rfl rfl Try.underlying28 rfl) ?_
                refine L_wv rfl rfl rfl rfl rfl rfl (V_lss rfl rfl rfl (by first | exact decide_eq_true (by omega) | exact decide_eq_false (by omega) | rfl)) ?_
                exact hk10 _ ⟨rfl, rfl, rfl, rfl, ext_cut 5 (by kernel_rfl) (by kernel_rfl)⟩
              refine L_nil ?_
              change J _ _ _ _
              refine J_cond rfl (fun h11 => ?_) (fun h11 => ?_)
              ·
                first | (have h11 := of_decide_eq_true h11) | (have h11 := of_decide_eq_false h11) | skip
                rw [Bool.and_eq_true, decide_eq_true_eq, decide_eq_true_eq] at h11
                obtain ⟨hi1, hi2⟩ := h11
                refine J_skip ?_
                change J _ _ _ _
                refine J_seq ?_
                refine J_block ?_
                refine J_regionQ rfl (by kernel_rfl) ?_
                refine LQ_v rfl rfl rfl (V_move rfl rfl) ?_
                refine LQ_v rfl rfl rfl (V_move rfl rfl) ?_
                refine LQ_wv rfl rfl rfl rfl rfl rfl (V_fieldAddr rfl rfl Try.underlying30 rfl sz28wRig rfl) ?_
                refine LQ_wv rfl rfl rfl rfl rfl rfl (V_load1 2 rfl rfl rfl Try.underlying28 rfl (by rfl)) ?_
                refine LQ_wv rfl rfl rfl rfl rfl rfl (V_move rfl rfl) ?_
                refine LQ_wv rfl rfl rfl rfl rfl rfl (V_indexC rfl rfl rfl Try.underlying28 sz43wRig (fun w hw => (hw.fa 2 rfl).r.r.1) (by omega) (by omega)) ?_
                refine LQ_wv rfl rfl rfl rfl rfl rfl (V_loadCN (vs := sgV (S'.gl.getD i sg0)) rfl rfl Try.underlying43 rfl (szd sz43wRig (by kernel_rfl)) (fun w hw => (hw.fa 2 rfl).r.r.1) (by exact Nat.zero_lt_succ _) (rows_v (f := sgV) sg0 (sz := 96) (fun _ => rfl) (by omega))) ?_
                refine LQ_wv rfl rfl rfl rfl rfl rfl (V_fieldAddr rfl rfl Try.underlying30 rfl sz28wRig rfl) ?_
                refine LQ_wv rfl rfl rfl rfl rfl rfl (V_load1 0 rfl rfl rfl Try.underlying28 rfl (by rfl)) ?_
                refine LQ_wv rfl rfl rfl rfl rfl rfl (V_move rfl rfl) ?_
                refine LQ_wv rfl rfl rfl rfl rfl rfl (V_indexC rfl rfl rfl Try.underlying28 sz43wRig (fun w hw => (hw.fa 0 rfl).r.r.1) (by omega) (by omega)) ?_
                refine LQ_wv rfl rfl rfl rfl rfl rfl (V_loadCN (vs := sgV (S.gl.getD i sg0)) rfl rfl Try.underlying43 rfl (szd sz43wRig (by kernel_rfl)) (fun w hw => (hw.fa 0 rfl).r.r.1) (by exact Nat.zero_lt_succ _) (rows_v (f := sgV) sg0 (sz := 96) (fun _ => rfl) (by omega))) ?_
                refine LQ_wv rfl rfl rfl rfl rfl rfl (V_eqAgg rfl rfl rfl (by kernel_rfl : Try.prog.eqGuardType Try.prog.depth 43 = false) (fun w => eqSgDO _ _ w) rfl) ?_
                first | refine LQ_v rfl rfl rfl (V_pickT rfl rfl rfl) ?_ | refine LQ_v rfl rfl rfl (V_pickF rfl rfl rfl) ?_
                refine LQ_v rfl rfl rfl (V_assign rfl rfl) ?_
                refine LQ_nil ?_
                change J _ _ _ _
                refine J_region ?_
                refine L_v rfl rfl rfl (V_move rfl rfl) ?_
                refine L_v rfl rfl rfl (V_add rfl rfl rfl (by first | exact Go.IntWalk.i64_in _ (by omega) | rfl)) ?_
                refine L_v rfl rfl rfl (V_assign rfl rfl) ?_
                refine L_nil ?_
                exact ⟨i + 1, by show i + 1 ≤ S.gl.length; omega, by show S.gl.length - (i + 1) < S.gl.length - i; omega, ⟨rfl, rfl, rfl, (by show some (Value.bool (decide _)) = some (Value.bool true); rw [decide_eq_true (hgi i (by omega))]), rfl, trivial⟩, List.Sublist.refl _, fun f hf => hf, rfl⟩
              ·
                first | (have h11 := of_decide_eq_true h11) | (have h11 := of_decide_eq_false h11) | skip
                refine J_exit ?_
                change J _ _ _ _
                refine J_seq ?_
                refine J_region ?_
                refine L_callV rfl rfl rfl rfl rfl rfl tx13wRig (fun w1 hw => folds_w w1) ?_
                refine L_v rfl rfl rfl (V_move rfl rfl) ?_
                apply L_and 1 154 156
                · rfl
                · rfl
                · rfl
                · rfl
                · rfl
                · rfl
                · rfl
                · kernel_rfl
                · intro hb12 _ _ hk12
                  refine L_wv rfl rfl rfl rfl rfl rfl (V_move rfl rfl) ?_
                  exact hk12 _ ⟨rfl, rfl, rfl, rfl, ext_cut 1 (by kernel_rfl) (by kernel_rfl)⟩
                refine L_v rfl rfl rfl (V_assign rfl rfl) ?_
                refine L_nil ?_
                change J _ _ _ _
                refine J_ret ?_
                change Kret _ _ _ Exit.ret _
                refine ret1 rfl rfl (RV_t rfl) ?_
                exact fun w' h => ⟨rfl, h.fr⟩
          ·
            first | (have h7 := of_decide_eq_true h7) | (have h7 := of_decide_eq_false h7) | skip
            have k6 := k5 h5 h6 h7
            refine J_region ?_
            refine L_v rfl rfl rfl (V_move rfl rfl) ?_
            refine L_v rfl rfl rfl (V_move rfl rfl) ?_
            apply L_and 3 70 74
            · rfl
            · rfl
            · rfl
            · rfl
            · rfl
            · rfl
            · rfl
            · kernel_rfl
            · intro hb8 _ _ hk8
              refine L_wv rfl rfl rfl rfl rfl rfl (V_move rfl rfl) ?_
              refine L_wv rfl rfl rfl rfl rfl rfl (V_move rfl rfl) ?_
              refine L_wv rfl rfl rfl rfl rfl rfl (V_eql rfl rfl rfl (by first | exact decide_eq_true (by omega) | exact decide_eq_false (by omega) | rfl)) ?_
              exact hk8 _ ⟨rfl, rfl, rfl, rfl, ext_cut 3 (by kernel_rfl) (by kernel_rfl)⟩
            refine L_v rfl rfl rfl (V_assign rfl rfl) ?_
            refine L_nil ?_
            change J _ _ _ _
            refine J_seq ?_
            refine J_seq ?_
            refine J_region ?_
            refine L_v rfl rfl rfl (V_assign rfl rfl) ?_
            refine L_nil ?_
            change J _ _ _ _
            refine J_block ?_
            refine J_loop (X := Nat) (fun i => { env := [(2, .pointer (some ⟨b0, 0, none⟩)), (3, .pointer (some ⟨b1, 0, none⟩)), (5, .pointer (some ⟨b2, 0, none⟩)), (9, .bool true), (10, .int .i64 (i : Int))], mem := [(b0, row 30 (svX S s s3)), (b1, row 45 (recX r ra rb rc rd)), (b2, row 30 (svX S' s' u'))], facts := [svF S s s3, rcA (r, ra, rb, rc, rd), svF S' s' u'] }) (fun i => i ≤ S.gl.length) (fun i => S.gl.length - i) 0 (Nat.zero_le _) ⟨⟨rfl, rfl, rfl, rfl, rfl, trivial⟩, List.Sublist.refl _, fun f hf => hf, rfl⟩ ?_
            rintro i hil
            try simp only at hil ⊢
            refine J_seq ?_
            refine J_seq ?_
            refine J_region ?_
            refine L_v rfl rfl rfl (V_move rfl rfl) ?_
            refine L_v rfl rfl rfl (V_fieldAddr rfl rfl Try.underlying30 rfl sz28wRig rfl) ?_
            refine L_v rfl rfl rfl (V_load1 0 rfl rfl rfl Try.underlying28 rfl (by rfl)) ?_
            refine L_v rfl rfl rfl (V_len rfl rfl Try.underlying28 rfl) ?_
            refine L_v rfl rfl rfl (V_lss rfl rfl rfl (by first | exact decide_eq_true (by omega) | exact decide_eq_false (by omega) | rfl)) ?_
            refine L_v rfl rfl rfl (V_move rfl rfl) ?_
            apply L_and 5 130 136
            · rfl
            · rfl
            · rfl
            · rfl
            · rfl
            · rfl
            · rfl
            · kernel_rfl
            · intro hb9 _ _ hk9
              refine L_wv rfl rfl rfl rfl rfl rfl (V_move rfl rfl) ?_
              refine L_wv rfl rfl rfl rfl rfl rfl (V_fieldAddr rfl rfl Try.underlying30 rfl sz28wRig rfl) ?_
              refine L_wv rfl rfl rfl rfl rfl rfl (V_load1 2 rfl rfl rfl Try.underlying28 rfl (by rfl)) ?_
              refine L_wv rfl rfl rfl rfl rfl rfl (V_len rfl rfl Try.underlying28 rfl) ?_
              refine L_wv rfl rfl rfl rfl rfl rfl (V_lss rfl rfl rfl (by first | exact decide_eq_true (by omega) | exact decide_eq_false (by omega) | rfl)) ?_
              exact hk9 _ ⟨rfl, rfl, rfl, rfl, ext_cut 5 (by kernel_rfl) (by kernel_rfl)⟩
            refine L_nil ?_
            change J _ _ _ _
            refine J_cond rfl (fun h10 => ?_) (fun h10 => ?_)
            ·
              first | (have h10 := of_decide_eq_true h10) | (have h10 := of_decide_eq_false h10) | skip
              rw [Bool.and_eq_true, decide_eq_true_eq, decide_eq_true_eq] at h10
              obtain ⟨hi1, hi2⟩ := h10
              refine J_skip ?_
              change J _ _ _ _
              refine J_seq ?_
              refine J_block ?_
              refine J_regionQ rfl (by kernel_rfl) ?_
              refine LQ_v rfl rfl rfl (V_move rfl rfl) ?_
              refine LQ_v rfl rfl rfl (V_move rfl rfl) ?_
              refine LQ_wv rfl rfl rfl rfl rfl rfl (V_fieldAddr rfl rfl Try.underlying30 rfl sz28wRig rfl) ?_
              refine LQ_wv rfl rfl rfl rfl rfl rfl (V_load1 2 rfl rfl rfl Try.underlying28 rfl (by rfl)) ?_
              refine LQ_wv rfl rfl rfl rfl rfl rfl (V_move rfl rfl) ?_
              refine LQ_wv rfl rfl rfl rfl rfl rfl (V_indexC rfl rfl rfl Try.underlying28 sz43wRig (fun w hw => (hw.fa 2 rfl).r.r.1) (by omega) (by omega)) ?_
              refine LQ_wv rfl rfl rfl rfl rfl rfl (V_loadCN (vs := sgV (S'.gl.getD i sg0)) rfl rfl Try.underlying43 rfl (szd sz43wRig (by kernel_rfl)) (fun w hw => (hw.fa 2 rfl).r.r.1) (by exact Nat.zero_lt_succ _) (rows_v (f := sgV) sg0 (sz := 96) (fun _ => rfl) (by omega))) ?_
              refine LQ_wv rfl rfl rfl rfl rfl rfl (V_fieldAddr rfl rfl Try.underlying30 rfl sz28wRig rfl) ?_
              refine LQ_wv rfl rfl rfl rfl rfl rfl (V_load1 0 rfl rfl rfl Try.underlying28 rfl (by rfl)) ?_
              refine LQ_wv rfl rfl rfl rfl rfl rfl (V_move rfl rfl) ?_
              refine LQ_wv rfl rfl rfl rfl rfl rfl (V_indexC rfl rfl rfl Try.underlying28 sz43wRig (fun w hw => (hw.fa 0 rfl).r.r.1) (by omega) (by omega)) ?_
              refine LQ_wv rfl rfl rfl rfl rfl rfl (V_loadCN (vs := sgV (S.gl.getD i sg0)) rfl rfl Try.underlying43 rfl (szd sz43wRig (by kernel_rfl)) (fun w hw => (hw.fa 0 rfl).r.r.1) (by exact Nat.zero_lt_succ _) (rows_v (f := sgV) sg0 (sz := 96) (fun _ => rfl) (by omega))) ?_
              refine LQ_wv rfl rfl rfl rfl rfl rfl (V_eqAgg rfl rfl rfl (by kernel_rfl : Try.prog.eqGuardType Try.prog.depth 43 = false) (fun w => eqSgDO _ _ w) rfl) ?_
              first | refine LQ_v rfl rfl rfl (V_pickT rfl rfl rfl) ?_ | refine LQ_v rfl rfl rfl (V_pickF rfl rfl rfl) ?_
              refine LQ_v rfl rfl rfl (V_assign rfl rfl) ?_
              refine LQ_nil ?_
              change J _ _ _ _
              refine J_region ?_
              refine L_v rfl rfl rfl (V_move rfl rfl) ?_
              refine L_v rfl rfl rfl (V_add rfl rfl rfl (by first | exact Go.IntWalk.i64_in _ (by omega) | rfl)) ?_
              refine L_v rfl rfl rfl (V_assign rfl rfl) ?_
              refine L_nil ?_
              exact ⟨i + 1, by show i + 1 ≤ S.gl.length; omega, by show S.gl.length - (i + 1) < S.gl.length - i; omega, ⟨rfl, rfl, rfl, (by show some (Value.bool (decide _)) = some (Value.bool true); rw [decide_eq_true (hgi i (by omega))]), rfl, trivial⟩, List.Sublist.refl _, fun f hf => hf, rfl⟩
            ·
              first | (have h10 := of_decide_eq_true h10) | (have h10 := of_decide_eq_false h10) | skip
              refine J_exit ?_
              change J _ _ _ _
              refine J_seq ?_
              refine J_region ?_
              refine L_callV rfl rfl rfl rfl rfl rfl tx13wRig (fun w1 hw => folds_w w1) ?_
              refine L_v rfl rfl rfl (V_move rfl rfl) ?_
              apply L_and 1 154 156
              · rfl
              · rfl
              · rfl
              · rfl
              · rfl
              · rfl
              · rfl
              · kernel_rfl
              · intro hb11 _ _ hk11
                refine L_wv rfl rfl rfl rfl rfl rfl (V_move rfl rfl) ?_
                exact hk11 _ ⟨rfl, rfl, rfl, rfl, ext_cut 1 (by kernel_rfl) (by kernel_rfl)⟩
              refine L_v rfl rfl rfl (V_assign rfl rfl) ?_
              refine L_nil ?_
              change J _ _ _ _
              refine J_ret ?_
              change Kret _ _ _ Exit.ret _
              refine ret1 rfl rfl (RV_t rfl) ?_
              exact fun w' h => ⟨rfl, h.fr⟩

end Go.Proofs.Ytcdenfkbhefbbaa
