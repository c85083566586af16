/- The law VaultFolds: its walk. -/
import Derived.Test.YtcdenfkbhefbbaaV18
set_option linter.unusedVariables false
set_option linter.unusedSimpArgs false
set_option maxRecDepth 100000
namespace Go.Proofs.Ytcdenfkbhefbbaa
open Go.Sx
theorem calls_b {P : Program} {f : FuncId} {args : Array Value} {w : World} {b : Bool} (hb : b = true) (h : Calls P f args w fun e w' => e = .returned (.bool b) ∧ Fr [] w w') : Calls P f args w fun e w' => e = .returned (.bool true) ∧ Fr [] w w' := by
  subst hb
  exact h
theorem svF_now {cx : Cx} {m : Mem} {fs : List Fact} {w : World} {S : SvS} {q1 q3 : OwnP} (h : OkW cx m fs w) (hq1 : PC 43 q1 S.es.length (keS S)) (hq3 : PC 97 q3 S.gl.length (kgS S)) (hs : ∀ p ∈ xM S q1 q3, p ∈ m) (hg : ∀ f ∈ xG S, f ∈ fs) : FA w (svF S (pA q1, pC q1) (pA q3, pC q3)) := by
  have fa : ∀ f ∈ xG S, FA w f := fun f hf => ⟨(h.facts f (hg f hf)).1, fun k hk => ((h.facts f (hg f hf)).2 k hk).1⟩
  refine .and (clT_A (fa _ (List.mem_cons_self ..))) (.and (.and (.slc (hq1.slC h (fun p hp => hs p (List.mem_append_left _ hp)))) (.all fun f hf => ?_)) (.slc (hq3.slC h (fun p hp => hs p (List.mem_append_right _ hp)))))
  obtain ⟨p, hp, rfl⟩ := List.mem_map.1 hf
  exact clT_A ((fa _ (List.mem_cons_of_mem _ (List.mem_cons_self ..))).of (List.mem_map.2 ⟨p, hp, rfl⟩))
theorem xD_new {S : SvS} {q1 q3 : OwnP} {w w' : World} (hU : Upd [] w w' (xM S q1 q3) (xG S)) : ∀ k, xD S q1 q3 k → w.heap.size ≤ k := by
  rintro k (hk | ⟨f, hf, hk⟩)
  · rcases hU.may k hk with h | h
    · cases h
    · exact h
  · exact (hU.fa f hf).new k hk
theorem chk01 (S : SvS) : (decide (chkN S.t S.v S.sn S.es S.gl = 0) || decide (chkN S.t S.v S.sn S.es S.gl = 1)) = true := by
  by_cases h : chkN S.t S.v S.sn S.es S.gl = 0
  · rw [decide_eq_true h]
    rfl
  · rw [decide_eq_true (foldK_1 (S := S) (r := tR 0 0) h).2, Bool.or_true]
theorem sz3wFol : (Try.prog.info? 3).map (·.size) = some 1 := by kernel_rfl
theorem sz22wFol : (Try.prog.info? 22).map (·.size) = some 1 := by kernel_rfl
theorem sz24wFol : (Try.prog.info? 24).map (·.size) = some 2 := by kernel_rfl
theorem sz26wFol : (Try.prog.info? 26).map (·.size) = some 5 := by kernel_rfl
theorem sz27wFol : (Try.prog.info? 27).map (·.size) = some 1 := by kernel_rfl
theorem sz28wFol : (Try.prog.info? 28).map (·.size) = some 1 := by kernel_rfl
theorem sz30wFol : (Try.prog.info? 30).map (·.size) = some 9 := by kernel_rfl
theorem sz39wFol : (Try.prog.info? 39).map (·.size) = some 43 := by kernel_rfl
theorem sz41wFol : (Try.prog.info? 41).map (·.size) = some 65 := by kernel_rfl
theorem sz43wFol : (Try.prog.info? 43).map (·.size) = some 97 := by kernel_rfl
theorem sz45wFol : (Try.prog.info? 45).map (·.size) = some 149 := by kernel_rfl
theorem tx6wFol : Txt Try.prog 6 := txt_of Try.func6 rfl (by kernel_rfl)
theorem tx7wFol : Txt Try.prog 7 := txt_of Try.func7 rfl (by kernel_rfl)
theorem tx8wFol : Txt Try.prog 8 := txt_of Try.func8 rfl (by kernel_rfl)
theorem tx9wFol : Txt Try.prog 9 := txt_of Try.func9 rfl (by kernel_rfl)
theorem tx10wFol : Txt Try.prog 10 := txt_of Try.func10 rfl (by kernel_rfl)
theorem tx11wFol : Txt Try.prog 11 := txt_of Try.func11 rfl (by kernel_rfl)
theorem tx12wFol : Txt Try.prog 12 := txt_of Try.func12 rfl (by kernel_rfl)
theorem tx13wFol : Txt Try.prog 13 := txt_of Try.func13 rfl (by kernel_rfl)
theorem z30wFol : (Try.prog.info? 30).bind (·.zero) = some (.agg [.int .i64 0, .int .i64 0, .int .i64 0, .int .i64 0, .slice none 0 0, .slice none 0 0, .string ByteArray.empty, .slice none 0 0, .slice none 0 0].toArray) := by kernel_rfl

set_option maxHeartbeats 4000000 in
theorem VaultFolds_w (S : SvS) (s s3 : Sp) (r : Rec) (ra rb rc rd : Sp) (w : World) (f1 : FA w (svF S s s3)) (hz : SzB S) (f2 : FA w (rcA (r, ra, rb, rc, rd))) (hB : SzC r.2.2.2.1.2.2.2.2 ∧ SzC r.2.2.2.2.2.1.2.2.1) (hi : -9223372036854775808 ≤ r.2.2.2.1.1 ∧ r.2.2.2.1.1 ≤ 9223372036854775807) :
    Calls Try.prog 3 #[.agg (svX S s s3).toArray, .agg (recX r ra rb rc rd).toArray] w fun e w' => e = .returned (.bool true) ∧ Fr [] w w' := by
  have hR : SzR r := ⟨hB.1, hB.2⟩
  refine calls_of (args := [.agg (svX S s s3).toArray, .agg (recX r ra rb rc rd).toArray]) ([]) ([]) ([svF S s s3, rcA (r, ra, rb, rc, rd)]) Try.func3 rfl rfl (okFW (.cons f1 (.cons f2 .nil))) ?_
  refine J_seq ?_
  refine J_region ?_
  refine L_box rfl rfl rfl rfl rfl (fun b0 => ?_)
  refine L_box rfl rfl rfl rfl rfl (fun b1 => ?_)
  refine L_v rfl rfl rfl (V_assign rfl rfl) ?_
  refine L_nil ?_
  change J _ _ _ _
  refine J_seq ?_
  refine J_seq ?_
  refine J_region ?_
  refine L_v rfl rfl rfl (V_loadT 0 (vs := svC S.t S.v S.sn S.a S.b (.slice s.1 S.es.length s.2) (.slice s3.1 S.gl.length s3.2)) rfl rfl rfl Try.underlying30 rfl sz30wFol (by kernel_rfl) (by kernel_rfl)) ?_
  refine L_v rfl rfl rfl (V_loadT 1 (vs := recX r ra rb rc rd) rfl rfl rfl Try.underlying45 rfl sz45wFol (by kernel_rfl) (by kernel_rfl)) ?_
  refine L_call rfl rfl rfl rfl tx6wFol (fun w1 hw => (large_w S s s3 r ra rb rc rd w1 (hw.fa 0 rfl) hz hR).mono ?_)
  rintro e w' ⟨bl, rfl, hfr, hlg⟩
  refine ⟨_, _, _, rfl, hw.fr0 hfr, rfl, ?_⟩
  refine L_nil ?_
  change J _ _ _ _
  refine J_cond rfl (fun h1 => ?_) (fun h1 => ?_)
  ·
    first | (have h1 := of_decide_eq_true h1) | (have h1 := of_decide_eq_false h1) | skip
    refine J_seq ?_
    refine J_region ?_
    refine L_v rfl rfl rfl (V_assign rfl rfl) ?_
    refine L_nil ?_
    change J _ _ _ _
    refine J_ret ?_
    change Kret _ _ _ Exit.ret _
    refine ret1 rfl rfl (RV_t rfl) ?_
    exact fun w' h => ⟨rfl, h.fr⟩
  ·
    first | (have h1 := of_decide_eq_true h1) | (have h1 := of_decide_eq_false h1) | skip
    obtain ⟨hl1, hl2⟩ := hlg h1
    have hV := hz.V hl1 hl2
    refine J_skip ?_
    change J _ _ _ _
    refine J_seq ?_
    refine J_region ?_
    refine L_v rfl rfl rfl (V_loadT 0 (vs := svC S.t S.v S.sn S.a S.b (.slice s.1 S.es.length s.2) (.slice s3.1 S.gl.length s3.2)) rfl rfl rfl Try.underlying30 rfl sz30wFol (by kernel_rfl) (by kernel_rfl)) ?_
    refine L_call rfl rfl rfl rfl tx7wFol (fun w1 hw => (rown_f S s s3 w1 (hw.fa 0 rfl) hz (by omega) (by omega)).mono ?_)
    rintro e w' ⟨O, s4, u4, rfl, hfr, hn, hO⟩
    have hzO := szB_sv hz hO
    refine ⟨_, _, _, rfl, hw.newN hfr hn, rfl, ?_⟩
    refine L_alloc rfl rfl rfl rfl z30wFol (fun b2 => ?_)
    refine L_storeW 2 rfl rfl rfl rfl rfl rfl (szd sz30wFol (by kernel_rfl)) (all_one (by kernel_rfl)) (by kernel_rfl) ?_
    refine L_nil ?_
    change J _ _ _ _
    refine J_seq ?_
    refine J_region ?_
    refine L_v rfl rfl rfl (V_loadT 0 (vs := svC S.t S.v S.sn S.a S.b (.slice s.1 S.es.length s.2) (.slice s3.1 S.gl.length s3.2)) rfl rfl rfl Try.underlying30 rfl sz30wFol (by kernel_rfl) (by kernel_rfl)) ?_
    refine L_callV rfl rfl rfl rfl rfl rfl tx8wFol (fun w1 hw => check_w S.t S.v S.sn S.a S.b S.es s S.gl s3 w1 (hw.fa 0 rfl).l (hw.fa 0 rfl).r.l (hw.fa 0 rfl).r.r hV.S.1 hV.S.2.2.1 hV.S.2.2.2.1 hV.S.2.2.2.2) ?_
    refine L_v rfl rfl rfl (V_assign rfl rfl) ?_
    refine L_nil ?_
    change J _ _ _ _
    refine J_seq ?_
    refine J_region ?_
    refine L_v rfl rfl rfl (V_loadT 0 (vs := svC S.t S.v S.sn S.a S.b (.slice s.1 S.es.length s.2) (.slice s3.1 S.gl.length s3.2)) rfl rfl rfl Try.underlying30 rfl sz30wFol (by kernel_rfl) (by kernel_rfl)) ?_
    refine L_v rfl rfl rfl (V_loadT 1 (vs := recX r ra rb rc rd) rfl rfl rfl Try.underlying45 rfl sz45wFol (by kernel_rfl) (by kernel_rfl)) ?_
    refine L_call rfl rfl rfl rfl tx9wFol (fun w1 hw => (fold_u S s s3 r ra rb rc rd w1 (hw.fa 0 rfl) (hw.fa 1 rfl) hV hB).mono ?_)
    rintro e w' ⟨S', q1, q3, rfl, hv, hq1, hq3, hU⟩
    have hN : ∀ k, xD S' q1 q3 k → w.heap.size ≤ k := fun k hk => Nat.le_trans hw.fr.size (xD_new hU k hk)
    have hdS : ∀ k, (svF S s s3).fp k → ¬ xD S' q1 q3 k := fun k hk hd => absurd ((hw.fa 0 rfl).2 k hk) (Nat.not_lt.2 (xD_new hU k hd))
    have hdO : ∀ k, (svF O s4 u4).fp k → ¬ xD S' q1 q3 k := fun k hk hd => absurd ((hw.fa 2 rfl).2 k hk) (Nat.not_lt.2 (xD_new hU k hd))
    have hzX : SzB S' := szB_fold hV hB hi hl1 hl2 hv
    refine ⟨_, _, _, rfl, OkW.upd (m1 := [(b0, row 30 (svX S s s3)), (b1, row 45 (recX r ra rb rc rd)), (b2, row 30 (svX O s4 u4))]) (m := []) hw hU, rfl, ?_⟩
    refine L_v rfl rfl rfl (V_move rfl rfl) ?_
    refine L_v rfl rfl rfl (V_extract rfl rfl rfl) ?_
    refine L_v rfl rfl rfl (V_extract rfl rfl rfl) ?_
    refine L_alloc rfl rfl rfl rfl z30wFol (fun b3 => ?_)
    refine L_pk ([(b0, row 30 (svX S s s3)), (b1, row 45 (recX r ra rb rc rd)), (b2, row 30 (svX O s4 u4))] ++ ((b3, row 30 (svX SS0 spN spN)) :: (pM 39 q1 (keS S') ++ pM 43 q3 (kgS S')))) (Pk.of_perm (l := ([(b0, row 30 (svX S s s3)), (b1, row 45 (recX r ra rb rc rd)), (b2, row 30 (svX O s4 u4))] ++ (pM 39 q1 (keS S') ++ pM 43 q3 (kgS S'))) ++ [(b3, row 30 (svX SS0 spN spN))]) (by rw [List.append_assoc]; exact List.Perm.append_left _ (List.perm_append_singleton _ _)) (List.Sublist.refl _)) ?_
    refine L_storeW 3 rfl rfl rfl rfl rfl rfl (szd sz30wFol (by kernel_rfl)) (all_one (by kernel_rfl)) (by kernel_rfl) ?_
    refine L_v rfl rfl rfl (V_assign rfl rfl) ?_
    refine L_nil ?_
    change J _ _ _ _
    refine J_seq ?_
    refine J_region ?_
    refine L_v rfl rfl rfl (V_loadT 2 (vs := svX O s4 u4) rfl rfl rfl Try.underlying30 rfl sz30wFol (by kernel_rfl) (by kernel_rfl)) ?_
    refine L_v rfl rfl rfl (V_loadT 1 (vs := recX r ra rb rc rd) rfl rfl rfl Try.underlying45 rfl sz45wFol (by kernel_rfl) (by kernel_rfl)) ?_
    refine L_call rfl rfl rfl rfl tx10wFol (fun w1 hw => (rfold_w O s4 u4 r ra rb rc rd w1 (hw.fa 2 rfl) (hw.fa 1 rfl) hzO hB hi).mono ?_)
    rintro e w' ⟨W, s5, u5, he, hfr, hn5, hvW⟩
    rw [hO] at he hvW
    subst he
    have hSW : S'.sv = W.sv := hv.trans hvW.symm
    refine ⟨_, _, _, rfl, hw.newN hfr hn5, rfl, ?_⟩
    refine L_v rfl rfl rfl (V_move rfl rfl) ?_
    refine L_v rfl rfl rfl (V_extract rfl rfl rfl) ?_
    refine L_v rfl rfl rfl (V_extract rfl rfl rfl) ?_
    refine L_alloc rfl rfl rfl rfl z30wFol (fun b4 => ?_)
    refine L_pk (([(b0, row 30 (svX S s s3)), (b1, row 45 (recX r ra rb rc rd)), (b2, row 30 (svX O s4 u4))] ++ [(b3, row 30 (svR S' q1 q3))]) ++ ((b4, row 30 (svX SS0 spN spN)) :: (pM 39 q1 (keS S') ++ pM 43 q3 (kgS S')))) (Pk.of_perm (l := (([(b0, row 30 (svX S s s3)), (b1, row 45 (recX r ra rb rc rd)), (b2, row 30 (svX O s4 u4))] ++ [(b3, row 30 (svR S' q1 q3))]) ++ (pM 39 q1 (keS S') ++ pM 43 q3 (kgS S'))) ++ [(b4, row 30 (svX SS0 spN spN))]) (by rw [List.append_assoc]; exact List.Perm.append_left _ (List.perm_append_singleton _ _)) (List.Sublist.refl _)) ?_
    refine L_storeW 4 rfl rfl rfl rfl rfl rfl (szd sz30wFol (by kernel_rfl)) (all_one (by kernel_rfl)) (by kernel_rfl) ?_
    refine L_v rfl rfl rfl (V_assign rfl rfl) ?_
    refine L_nil ?_
    change J _ _ _ _
    refine J_seq ?_
    refine J_mid (X := Nat × Nat × Nat) (fun z9 => { env := [(2, .pointer (some ⟨z9.1, 0, none⟩)), (5, .pointer (some ⟨z9.2.1, 0, none⟩)), (7, .pointer (some ⟨z9.2.2, 0, none⟩)), (11, .bool true)], mem := [(z9.1, row 30 (svX S s s3)), (z9.2.1, row 30 (svX O s4 u4)), (z9.2.2, row 30 (svR S' q1 q3))] ++ xM S' q1 q3, facts := [svF S s s3, svF O s4 u4] ++ xG S' }) ?_ ?_
    ·
      refine J_region ?_
      refine L_v rfl rfl rfl (V_move rfl rfl) ?_
      refine L_v rfl rfl rfl (V_move rfl rfl) ?_
      refine L_v rfl rfl rfl (V_eql rfl rfl rfl (by first | exact decide_eq_true (by omega) | exact decide_eq_false (by omega) | rfl)) ?_
      refine L_v rfl rfl rfl (V_move rfl rfl) ?_
      refine L_wv rfl rfl rfl rfl rfl rfl (V_loadT 3 (vs := svR S' q1 q3) rfl rfl rfl Try.underlying30 rfl sz30wFol (by kernel_rfl) (by kernel_rfl)) ?_
      refine L_wv rfl rfl rfl rfl rfl rfl (V_loadT 4 (vs := svX W s5 u5) rfl rfl rfl Try.underlying30 rfl sz30wFol (by kernel_rfl) (by kernel_rfl)) ?_
      refine L_wcallV rfl rfl rfl rfl rfl rfl rfl rfl rfl tx11wFol (fun w1 hw => calls_b (decide_eq_true hSW) (same_w S' (pA q1, pC q1) (pA q3, pC q3) W s5 u5 w1 (svF_now hw hq1 hq3 (fun p hp => List.mem_append_right (_ :: _ :: _ :: _ :: [_]) hp) (fun f hf => List.mem_append_left [_] (List.mem_append_right [_, _, _] hf))) (hw.fa 5 rfl) hzX)) ?_
      first | refine L_v rfl rfl rfl (V_pickT rfl rfl rfl) ?_ | refine L_v rfl rfl rfl (V_pickF rfl rfl rfl) ?_
      refine L_v rfl rfl rfl (V_move rfl rfl) ?_
      refine L_wv rfl rfl rfl rfl rfl rfl (V_move rfl rfl) ?_
      refine L_wv rfl rfl rfl rfl rfl rfl (V_eql rfl rfl rfl (by first | exact decide_eq_true (by omega) | exact decide_eq_false (by omega) | rfl)) ?_
      refine L_wv rfl rfl rfl rfl rfl rfl (V_loadT 2 (vs := svX O s4 u4) rfl rfl rfl Try.underlying30 rfl sz30wFol (by kernel_rfl) (by kernel_rfl)) ?_
      refine L_wcallV rfl rfl rfl rfl rfl rfl rfl rfl rfl tx12wFol (fun w1 hw => rright_w O s4 u4 w1 (hw.fa 2 rfl) hzO) ?_
      refine L_wv rfl rfl rfl rfl rfl rfl (V_eqB rfl rfl rfl Try.underlying4 rfl) ?_
      refine L_same 48 rfl (congrArg Value.bool (chk_same hO)) ?_
      first | refine L_v rfl rfl rfl (V_pickT rfl rfl rfl) ?_ | refine L_v rfl rfl rfl (V_pickF rfl rfl rfl) ?_
      refine L_v rfl rfl rfl (V_move rfl rfl) ?_
      refine L_wv rfl rfl rfl rfl rfl rfl (V_move rfl rfl) ?_
      refine L_wv rfl rfl rfl rfl rfl rfl (V_eql rfl rfl rfl (by first | exact decide_eq_true (by omega) | exact decide_eq_false (by omega) | rfl)) ?_
      refine L_wv rfl rfl rfl rfl rfl rfl (V_move rfl rfl) ?_
      refine L_split 53 rfl (fun h2 => ?_) (fun h2 => ?_)
      ·
        first | (have h2 := of_decide_eq_true h2) | (have h2 := of_decide_eq_false h2) | skip
        refine L_skip rfl rfl rfl rfl rfl rfl rfl ?_
        refine L_skip rfl rfl rfl rfl rfl rfl rfl ?_
        first | refine L_wv rfl rfl rfl rfl rfl rfl (V_pickT rfl rfl rfl) ?_ | refine L_wv rfl rfl rfl rfl rfl rfl (V_pickF rfl rfl rfl) ?_
        first | refine L_v rfl rfl rfl (V_pickT rfl rfl rfl) ?_ | refine L_v rfl rfl rfl (V_pickF rfl rfl rfl) ?_
        refine L_v rfl rfl rfl (V_assign rfl rfl) ?_
        refine L_nil ?_
        refine ⟨(b0, b2, b3), ⟨rfl, rfl, rfl, rfl, trivial⟩, .cons_cons _ (.cons _ (.cons_cons _ (.cons_cons _ (.cons _ (List.Sublist.refl _))))), fun f hf => ?_, rfl⟩
        · have hf : f ∈ [svF S s s3, svF O s4 u4] ++ xG S' := hf
          show f ∈ (([svF S s s3, rcA (r, ra, rb, rc, rd), svF O s4 u4] : List Fact) ++ xG S') ++ [svF W s5 u5]
          simp only [List.mem_append, List.mem_cons, List.not_mem_nil, or_false] at hf ⊢
          grind
      ·
        first | (have h2 := of_decide_eq_true h2) | (have h2 := of_decide_eq_false h2) | skip
        refine L_wv rfl rfl rfl rfl rfl rfl (V_move rfl rfl) ?_
        refine L_wv rfl rfl rfl rfl rfl rfl (V_eql rfl rfl rfl (by first | exact decide_eq_true (by omega) | exact decide_eq_false (by omega) | rfl)) ?_
        refine L_same 55 rfl (congrArg Value.bool (decide_eq_true (foldK_1 (S := S) (r := tR 0 0) h2).2)) ?_
        first | refine L_wv rfl rfl rfl rfl rfl rfl (V_pickT rfl rfl rfl) ?_ | refine L_wv rfl rfl rfl rfl rfl rfl (V_pickF rfl rfl rfl) ?_
        first | refine L_v rfl rfl rfl (V_pickT rfl rfl rfl) ?_ | refine L_v rfl rfl rfl (V_pickF rfl rfl rfl) ?_
        refine L_v rfl rfl rfl (V_assign rfl rfl) ?_
        refine L_nil ?_
        refine ⟨(b0, b2, b3), ⟨rfl, rfl, rfl, rfl, trivial⟩, .cons_cons _ (.cons _ (.cons_cons _ (.cons_cons _ (.cons _ (List.Sublist.refl _))))), fun f hf => ?_, rfl⟩
        · have hf : f ∈ [svF S s s3, svF O s4 u4] ++ xG S' := hf
          show f ∈ (([svF S s s3, rcA (r, ra, rb, rc, rd), svF O s4 u4] : List Fact) ++ xG S') ++ [svF W s5 u5]
          simp only [List.mem_append, List.mem_cons, List.not_mem_nil, or_false] at hf ⊢
          grind
    rintro ⟨b0, b2, b3⟩
    refine J_poke ([(b0, row 30 (svX S s s3)), (b2, row 30 (svX O s4 u4)), (b3, row 30 (svR S' q1 q3))]) (xM S' q1 q3) [svF S s s3, svF O s4 u4] (xG S') (xD S' q1 q3) rfl rfl (fun b hb => hb) (fun w hw => xD_row hw) (fun w1 hw1 => ?_)
    have X := xw_of hw1 hq1 hq3
    obtain ⟨⟨zx1, _⟩, zx2, zx3, zx4, _⟩ := id hzX
    have hM : pokeF (xD S' q1 q3) w1 ∈ [svF S s s3, svF O s4 u4, pokeF (xD S' q1 q3) w1] := List.mem_cons_of_mem _ (List.mem_cons_of_mem _ (List.mem_cons_self ..))
    have hF : ∀ f ∈ [svF S s s3, svF O s4 u4, pokeF (xD S' q1 q3) w1], f = pokeF (xD S' q1 q3) w1 ∨ ∀ k, f.fp k → ¬ xD S' q1 q3 k := by
      intro f hf
      rcases List.mem_cons.1 hf with rfl | hf
      · exact .inr hdS
      · rcases List.mem_cons.1 hf with rfl | hf
        · exact .inr hdO
        · exact .inl (List.mem_singleton.1 hf)
    change J _ _ _ _
    refine J_seq ?_
    refine J_seq ?_
    refine J_region ?_
    refine L_v rfl rfl rfl (V_assign rfl rfl) ?_
    refine L_nil ?_
    change J _ _ _ _
    refine J_block ?_
    refine J_loop (X := Nat) (fun i => { env := [(2, .pointer (some ⟨b0, 0, none⟩)), (5, .pointer (some ⟨b2, 0, none⟩)), (7, .pointer (some ⟨b3, 0, none⟩)), (11, .bool true), (12, .int .i64 (i : Int))], mem := [(b0, row 30 (svX S s s3)), (b2, row 30 (svX O s4 u4)), (b3, row 30 (svR S' q1 q3))], facts := [svF S s s3, svF O s4 u4, pokeF (xD S' q1 q3) w1] }) (fun m9 => m9 ≤ S'.es.length) (fun m9 => S'.es.length - m9) 0 (Nat.zero_le _) ⟨⟨rfl, rfl, rfl, rfl, rfl, trivial⟩, List.Sublist.refl _, fun f hf => hf, rfl⟩ ?_
    rintro i hili
    try simp only at hili ⊢
    refine J_seq ?_
    refine J_seq ?_
    refine J_region ?_
    refine L_v rfl rfl rfl (V_move rfl rfl) ?_
    refine L_v rfl rfl rfl (V_fieldAddr rfl rfl Try.underlying30 rfl sz27wFol rfl) ?_
    refine L_v rfl rfl rfl (V_load1 2 rfl rfl rfl Try.underlying27 rfl (by rfl)) ?_
    refine L_v rfl rfl rfl (V_len rfl rfl Try.underlying27 rfl) ?_
    refine L_v rfl rfl rfl (V_lss rfl rfl rfl (by first | exact decide_eq_true (by omega) | exact decide_eq_false (by omega) | rfl)) ?_
    refine L_nil ?_
    change J _ _ _ _
    refine J_cond rfl (fun h2 => ?_) (fun h2 => ?_)
    ·
      first | (have h2 := of_decide_eq_true h2) | (have h2 := of_decide_eq_false h2) | skip
      have hi9 : i < S'.es.length := by omega
      obtain ⟨g, o, ha, hD, hc⟩ := X.en i hi9
      refine J_skip ?_
      change J _ _ _ _
      refine J_seq ?_
      refine J_block ?_
      refine J_seq ?_
      refine J_region ?_
      refine L_v rfl rfl rfl (V_fieldAddr rfl rfl Try.underlying30 rfl sz27wFol rfl) ?_
      refine L_v rfl rfl rfl (V_load1 2 rfl rfl rfl Try.underlying27 rfl (by rfl)) ?_
      refine L_v rfl rfl rfl (V_move rfl rfl) ?_
      refine L_v rfl rfl rfl (V_indexA (off' := o + i * 43) rfl rfl ha rfl Try.underlying27 sz39wFol (by omega) (by omega) (by simp)) ?_
      refine L_v rfl rfl rfl (V_fieldAddr (off' := o + (i * 43 + 1)) rfl rfl Try.underlying39 rfl sz3wFol rfl) ?_
      refine L_poke (i := (S'.es.getD i env0).1.2.1) rfl rfl rfl rfl rfl sz3wFol hM hD (hc 1 _ (by kernel_rfl)) hF hN ?_
      refine L_nil ?_
      change J _ _ _ _
      refine J_seq ?_
      refine J_region ?_
      refine L_v rfl rfl rfl (V_assign rfl rfl) ?_
      refine L_nil ?_
      change J _ _ _ _
      refine J_block ?_
      refine J_loop (X := Nat) (fun k => { env := [(2, .pointer (some ⟨b0, 0, none⟩)), (5, .pointer (some ⟨b2, 0, none⟩)), (7, .pointer (some ⟨b3, 0, none⟩)), (11, .bool true), (12, .int .i64 (i : Int)), (13, .int .i64 (k : Int))], mem := [(b0, row 30 (svX S s s3)), (b2, row 30 (svX O s4 u4)), (b3, row 30 (svR S' q1 q3))], facts := [svF S s s3, svF O s4 u4, pokeF (xD S' q1 q3) w1] }) (fun m9 => m9 ≤ (S'.es.getD i env0).1.2.2.2.2.1.length) (fun m9 => (S'.es.getD i env0).1.2.2.2.2.1.length - m9) 0 (Nat.zero_le _) ⟨⟨rfl, rfl, rfl, rfl, rfl, rfl, trivial⟩, List.Sublist.refl _, fun f hf => hf, rfl⟩ ?_
      rintro k hilk
      try simp only at hilk ⊢
      refine J_seq ?_
      refine J_seq ?_
      refine J_region ?_
      refine L_v rfl rfl rfl (V_move rfl rfl) ?_
      refine L_v rfl rfl rfl (V_fieldAddr rfl rfl Try.underlying30 rfl sz27wFol rfl) ?_
      refine L_v rfl rfl rfl (V_load1 2 rfl rfl rfl Try.underlying27 rfl (by rfl)) ?_
      refine L_v rfl rfl rfl (V_move rfl rfl) ?_
      refine L_v rfl rfl rfl (V_indexA (off' := o + i * 43) rfl rfl ha rfl Try.underlying27 sz39wFol (by omega) (by omega) (by simp)) ?_
      refine L_v rfl rfl rfl (V_fieldAddr (off' := o + (i * 43 + 41)) rfl rfl Try.underlying39 rfl sz24wFol rfl) ?_
      refine L_v rfl rfl rfl (V_fieldAddr (off' := o + (i * 43 + 41)) rfl rfl Try.underlying24 rfl sz22wFol rfl) ?_
      refine L_v rfl rfl rfl (V_loadK (v := (.slice (S'.es.getD i env0).2.1.1 (S'.es.getD i env0).1.2.2.2.2.1.length (S'.es.getD i env0).2.1.2)) rfl rfl Try.underlying22 rfl hM hD (fun _ e => by cases e) (hc 41 _ (by kernel_rfl))) ?_
      refine L_v rfl rfl rfl (V_len rfl rfl Try.underlying22 rfl) ?_
      refine L_v rfl rfl rfl (V_lss rfl rfl rfl (by first | exact decide_eq_true (by omega) | exact decide_eq_false (by omega) | rfl)) ?_
      refine L_nil ?_
      change J _ _ _ _
      refine J_cond rfl (fun h3 => ?_) (fun h3 => ?_)
      ·
        first | (have h3 := of_decide_eq_true h3) | (have h3 := of_decide_eq_false h3) | skip
        have hk9 : k < (S'.es.getD i env0).1.2.2.2.2.1.length := by omega
        have zk9 := (zx2 (S'.es.getD i env0) (getD_mem hi9)).1
        obtain ⟨g2, o2, j2, hva, hvD, hvc⟩ := X.vo i hi9 k hk9
        refine J_skip ?_
        change J _ _ _ _
        refine J_seq ?_
        refine J_block ?_
        refine J_region ?_
        refine L_v rfl rfl rfl (V_fieldAddr rfl rfl Try.underlying30 rfl sz27wFol rfl) ?_
        refine L_v rfl rfl rfl (V_load1 2 rfl rfl rfl Try.underlying27 rfl (by rfl)) ?_
        refine L_v rfl rfl rfl (V_move rfl rfl) ?_
        refine L_v rfl rfl rfl (V_indexA (off' := o + i * 43) rfl rfl ha rfl Try.underlying27 sz39wFol (by omega) (by omega) (by simp)) ?_
        refine L_v rfl rfl rfl (V_fieldAddr (off' := o + (i * 43 + 41)) rfl rfl Try.underlying39 rfl sz24wFol rfl) ?_
        refine L_v rfl rfl rfl (V_fieldAddr (off' := o + (i * 43 + 41)) rfl rfl Try.underlying24 rfl sz22wFol rfl) ?_
        refine L_v rfl rfl rfl (V_loadK (v := (.slice (S'.es.getD i env0).2.1.1 (S'.es.getD i env0).1.2.2.2.2.1.length (S'.es.getD i env0).2.1.2)) rfl rfl Try.underlying22 rfl hM hD (fun _ e => by cases e) (hc 41 _ (by kernel_rfl))) ?_
        refine L_v rfl rfl rfl (V_move rfl rfl) ?_
        refine L_v rfl rfl rfl (V_indexA (off' := o2 + k) rfl rfl hva rfl Try.underlying22 sz3wFol (by omega) (by omega) (by simp)) ?_
        refine L_poke (i := j2) rfl rfl rfl rfl rfl sz3wFol hM hvD hvc hF hN ?_
        refine L_nil ?_
        change J _ _ _ _
        refine J_region ?_
        refine L_v rfl rfl rfl (V_move rfl rfl) ?_
        refine L_v rfl rfl rfl (V_add rfl rfl rfl (by first | exact Go.IntWalk.i64_in _ (by omega) | rfl)) ?_
        refine L_v rfl rfl rfl (V_assign rfl rfl) ?_
        refine L_nil ?_
        exact ⟨k + 1, by show k + 1 ≤ (S'.es.getD i env0).1.2.2.2.2.1.length; omega, by show (S'.es.getD i env0).1.2.2.2.2.1.length - (k + 1) < (S'.es.getD i env0).1.2.2.2.2.1.length - k; omega, ⟨rfl, rfl, rfl, rfl, rfl, rfl, trivial⟩, List.Sublist.refl _, fun f hf => hf, rfl⟩
      ·
        first | (have h3 := of_decide_eq_true h3) | (have h3 := of_decide_eq_false h3) | skip
        refine J_exit ?_
        change J _ _ _ _
        refine J_region ?_
        refine L_v rfl rfl rfl (V_move rfl rfl) ?_
        refine L_v rfl rfl rfl (V_add rfl rfl rfl (by first | exact Go.IntWalk.i64_in _ (by omega) | rfl)) ?_
        refine L_v rfl rfl rfl (V_assign rfl rfl) ?_
        refine L_nil ?_
        exact ⟨i + 1, by show i + 1 ≤ S'.es.length; omega, by show S'.es.length - (i + 1) < S'.es.length - i; omega, ⟨rfl, rfl, rfl, rfl, rfl, trivial⟩, List.Sublist.refl _, fun f hf => hf, rfl⟩
    ·
      first | (have h2 := of_decide_eq_true h2) | (have h2 := of_decide_eq_false h2) | skip
      refine J_exit ?_
      change J _ _ _ _
      refine J_seq ?_
      refine J_seq ?_
      refine J_region ?_
      refine L_v rfl rfl rfl (V_assign rfl rfl) ?_
      refine L_nil ?_
      change J _ _ _ _
      refine J_block ?_
      refine J_loop (X := Nat) (fun i => { env := [(2, .pointer (some ⟨b0, 0, none⟩)), (5, .pointer (some ⟨b2, 0, none⟩)), (7, .pointer (some ⟨b3, 0, none⟩)), (11, .bool true), (14, .int .i64 (i : Int))], mem := [(b0, row 30 (svX S s s3)), (b2, row 30 (svX O s4 u4)), (b3, row 30 (svR S' q1 q3))], facts := [svF S s s3, svF O s4 u4, pokeF (xD S' q1 q3) w1] }) (fun m9 => m9 ≤ S'.gl.length) (fun m9 => S'.gl.length - m9) 0 (Nat.zero_le _) ⟨⟨rfl, rfl, rfl, rfl, rfl, trivial⟩, List.Sublist.refl _, fun f hf => hf, rfl⟩ ?_
      rintro i hili
      try simp only at hili ⊢
      refine J_seq ?_
      refine J_seq ?_
      refine J_region ?_
      refine L_v rfl rfl rfl (V_move rfl rfl) ?_
      refine L_v rfl rfl rfl (V_fieldAddr rfl rfl Try.underlying30 rfl sz28wFol rfl) ?_
      refine L_v rfl rfl rfl (V_load1 2 rfl rfl rfl Try.underlying28 rfl (by rfl)) ?_
      refine L_v rfl rfl rfl (V_len rfl rfl Try.underlying28 rfl) ?_
      refine L_v rfl rfl rfl (V_lss rfl rfl rfl (by first | exact decide_eq_true (by omega) | exact decide_eq_false (by omega) | rfl)) ?_
      refine L_nil ?_
      change J _ _ _ _
      refine J_cond rfl (fun h3 => ?_) (fun h3 => ?_)
      ·
        first | (have h3 := of_decide_eq_true h3) | (have h3 := of_decide_eq_false h3) | skip
        have hi9 : i < S'.gl.length := by omega
        obtain ⟨g, o, ha, hD, hc⟩ := X.sg i hi9
        refine J_skip ?_
        change J _ _ _ _
        refine J_seq ?_
        refine J_block ?_
        refine J_region ?_
        refine L_v rfl rfl rfl (V_fieldAddr rfl rfl Try.underlying30 rfl sz28wFol rfl) ?_
        refine L_v rfl rfl rfl (V_load1 2 rfl rfl rfl Try.underlying28 rfl (by rfl)) ?_
        refine L_v rfl rfl rfl (V_move rfl rfl) ?_
        refine L_v rfl rfl rfl (V_indexA (off' := o + i * 97) rfl rfl ha rfl Try.underlying28 sz43wFol (by omega) (by omega) (by simp)) ?_
        refine L_v rfl rfl rfl (V_fieldAddr (off' := o + (i * 97 + 0)) rfl rfl Try.underlying43 rfl sz41wFol rfl) ?_
        refine L_v rfl rfl rfl (V_fieldAddr (off' := o + (i * 97 + 0)) rfl rfl Try.underlying41 rfl sz3wFol rfl) ?_
        refine L_poke (i := (S'.gl.getD i sg0).1.1) rfl rfl rfl rfl rfl sz3wFol hM hD (hc 0 _ (by kernel_rfl)) hF hN ?_
        refine L_nil ?_
        change J _ _ _ _
        refine J_region ?_
        refine L_v rfl rfl rfl (V_move rfl rfl) ?_
        refine L_v rfl rfl rfl (V_add rfl rfl rfl (by first | exact Go.IntWalk.i64_in _ (by omega) | rfl)) ?_
        refine L_v rfl rfl rfl (V_assign rfl rfl) ?_
        refine L_nil ?_
        exact ⟨i + 1, by show i + 1 ≤ S'.gl.length; omega, by show S'.gl.length - (i + 1) < S'.gl.length - i; omega, ⟨rfl, rfl, rfl, rfl, rfl, trivial⟩, List.Sublist.refl _, fun f hf => hf, rfl⟩
      ·
        first | (have h3 := of_decide_eq_true h3) | (have h3 := of_decide_eq_false h3) | skip
        refine J_exit ?_
        change J _ _ _ _
        refine J_seq ?_
        refine J_seq ?_
        refine J_region ?_
        refine L_v rfl rfl rfl (V_assign rfl rfl) ?_
        refine L_nil ?_
        change J _ _ _ _
        refine J_block ?_
        refine J_loop (X := Nat) (fun k => { env := [(2, .pointer (some ⟨b0, 0, none⟩)), (5, .pointer (some ⟨b2, 0, none⟩)), (7, .pointer (some ⟨b3, 0, none⟩)), (11, .bool true), (15, .int .i64 (k : Int))], mem := [(b0, row 30 (svX S s s3)), (b2, row 30 (svX O s4 u4)), (b3, row 30 (svR S' q1 q3))], facts := [svF S s s3, svF O s4 u4, pokeF (xD S' q1 q3) w1] }) (fun m9 => m9 ≤ S'.sn.2.2.1.1.length) (fun m9 => S'.sn.2.2.1.1.length - m9) 0 (Nat.zero_le _) ⟨⟨rfl, rfl, rfl, rfl, rfl, trivial⟩, List.Sublist.refl _, fun f hf => hf, rfl⟩ ?_
        rintro k hilk
        try simp only at hilk ⊢
        refine J_seq ?_
        refine J_seq ?_
        refine J_region ?_
        refine L_v rfl rfl rfl (V_move rfl rfl) ?_
        refine L_v rfl rfl rfl (V_fieldAddr rfl rfl Try.underlying30 rfl sz26wFol rfl) ?_
        refine L_v rfl rfl rfl (V_fieldAddr rfl rfl Try.underlying26 rfl sz24wFol rfl) ?_
        refine L_v rfl rfl rfl (V_fieldAddr rfl rfl Try.underlying24 rfl sz22wFol rfl) ?_
        refine L_v rfl rfl rfl (V_load1 2 rfl rfl rfl Try.underlying22 rfl (by rfl)) ?_
        refine L_v rfl rfl rfl (V_len rfl rfl Try.underlying22 rfl) ?_
        refine L_v rfl rfl rfl (V_lss rfl rfl rfl (by first | exact decide_eq_true (by omega) | exact decide_eq_false (by omega) | rfl)) ?_
        refine L_nil ?_
        change J _ _ _ _
        refine J_cond rfl (fun h4 => ?_) (fun h4 => ?_)
        ·
          first | (have h4 := of_decide_eq_true h4) | (have h4 := of_decide_eq_false h4) | skip
          have hk9 : k < S'.sn.2.2.1.1.length := by omega
          obtain ⟨g2, o2, j2, hva, hvD, hvc⟩ := X.sn k hk9
          refine J_skip ?_
          change J _ _ _ _
          refine J_seq ?_
          refine J_block ?_
          refine J_region ?_
          refine L_v rfl rfl rfl (V_fieldAddr rfl rfl Try.underlying30 rfl sz26wFol rfl) ?_
          refine L_v rfl rfl rfl (V_fieldAddr rfl rfl Try.underlying26 rfl sz24wFol rfl) ?_
          refine L_v rfl rfl rfl (V_fieldAddr rfl rfl Try.underlying24 rfl sz22wFol rfl) ?_
          refine L_v rfl rfl rfl (V_load1 2 rfl rfl rfl Try.underlying22 rfl (by rfl)) ?_
          refine L_v rfl rfl rfl (V_move rfl rfl) ?_
          refine L_v rfl rfl rfl (V_indexA (off' := o2 + k) rfl rfl hva rfl Try.underlying22 sz3wFol (by omega) (by omega) (by simp)) ?_
          refine L_poke (i := j2) rfl rfl rfl rfl rfl sz3wFol hM hvD hvc hF hN ?_
          refine L_nil ?_
          change J _ _ _ _
          refine J_region ?_
          refine L_v rfl rfl rfl (V_move rfl rfl) ?_
          refine L_v rfl rfl rfl (V_add rfl rfl rfl (by first | exact Go.IntWalk.i64_in _ (by omega) | rfl)) ?_
          refine L_v rfl rfl rfl (V_assign rfl rfl) ?_
          refine L_nil ?_
          exact ⟨k + 1, by show k + 1 ≤ S'.sn.2.2.1.1.length; omega, by show S'.sn.2.2.1.1.length - (k + 1) < S'.sn.2.2.1.1.length - k; omega, ⟨rfl, rfl, rfl, rfl, rfl, trivial⟩, List.Sublist.refl _, fun f hf => hf, rfl⟩
        ·
          first | (have h4 := of_decide_eq_true h4) | (have h4 := of_decide_eq_false h4) | skip
          refine J_exit ?_
          change J _ _ _ _
          refine J_seq ?_
          refine J_region ?_
          refine L_callV rfl rfl rfl rfl rfl rfl tx13wFol (fun w1 hw => folds_w w1) ?_
          refine L_v rfl rfl rfl (V_move rfl rfl) ?_
          refine L_wv rfl rfl rfl rfl rfl rfl (V_move rfl rfl) ?_
          first | refine L_v rfl rfl rfl (V_pickT rfl rfl rfl) ?_ | refine L_v rfl rfl rfl (V_pickF rfl rfl rfl) ?_
          refine L_v rfl rfl rfl (V_move rfl rfl) ?_
          refine L_wv rfl rfl rfl rfl rfl rfl (V_loadT 0 (vs := svX S s s3) rfl rfl rfl Try.underlying30 rfl sz30wFol (by kernel_rfl) (by kernel_rfl)) ?_
          refine L_wv rfl rfl rfl rfl rfl rfl (V_loadT 1 (vs := svX O s4 u4) rfl rfl rfl Try.underlying30 rfl sz30wFol (by kernel_rfl) (by kernel_rfl)) ?_
          refine L_wcallV rfl rfl rfl rfl rfl rfl rfl rfl rfl tx11wFol (fun w1 hw => calls_b (decide_eq_true hO.symm) (same_w S s s3 O s4 u4 w1 (hw.fa 0 rfl) (hw.fa 1 rfl) hz)) ?_
          first | refine L_v rfl rfl rfl (V_pickT rfl rfl rfl) ?_ | refine L_v rfl rfl rfl (V_pickF rfl rfl rfl) ?_
          refine L_v rfl rfl rfl (V_assign rfl rfl) ?_
          refine L_nil ?_
          change J _ _ _ _
          refine J_ret ?_
          change Kret _ _ _ Exit.ret _
          refine ret1 rfl rfl (RV_t rfl) ?_
          exact fun w' h => ⟨rfl, h.fr⟩

end Go.Proofs.Ytcdenfkbhefbbaa
