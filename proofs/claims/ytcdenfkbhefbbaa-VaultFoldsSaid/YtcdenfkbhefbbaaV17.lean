/- The reference of the vault: Fold. -/
import Derived.Test.YtcdenfkbhefbbaaV16
set_option linter.unusedVariables false
set_option linter.unusedSimpArgs false
set_option maxRecDepth 100000
namespace Go.Proofs.Ytcdenfkbhefbbaa
open Go.Sx
theorem q_right {s : Sv} {r : Rec} (h : ¬ RightS s) : foldQ s r = 1 ∧ foldV s r = sv0 := by
  have h1 : foldQ s r = 1 := if_neg h
  refine ⟨h1, ?_⟩
  unfold foldV
  rw [if_neg (by rw [h1]; decide)]
theorem q_may {s : Sv} {r : Rec} (h : RightS s) (hm : ¬ (okR r = true ∧ MayR r)) : foldQ s r = 110 ∧ foldV s r = sv0 := by
  have h1 : foldQ s r = 110 := (foldQ_yes h).trans (if_neg hm)
  refine ⟨h1, ?_⟩
  unfold foldV
  rw [if_neg (by rw [h1]; decide)]
def RFP (S : SvS) (r : Rec) (w : World) : Ending → World → Prop := fun e w' => ∃ (S' : SvS) (s' s3' : Sp), e = .returned (.tuple #[.agg (svX S' s' s3').toArray, .int .i64 (foldQ S.sv r)]) ∧ Fr [] w w' ∧ NewF w w' (svF S' s' s3') ∧ S'.sv = foldV S.sv r
theorem rfp_no {S : SvS} {r : Rec} {w w' : World} {k : Int} (h : foldQ S.sv r = k ∧ foldV S.sv r = sv0) (hfr : Fr [] w w') : RFP S r w (.returned (.tuple #[.agg (svX SS0 spN spN).toArray, .int .i64 k])) w' :=
  ⟨SS0, spN, spN, by rw [h.1], hfr, svF0n, by rw [h.2]; rfl⟩
theorem rfp_yes {S S' : SvS} {r : Rec} {s' s3' : Sp} {w w' : World} (hR : RightS S.sv) (hfr : Fr [] w w') (hn : NewF w w' (svF S' s' s3')) (hv : S'.sv = if adE S.sv r = 0 then foldS S.sv r else sv0) : RFP S r w (.returned (.tuple #[.agg (svX S' s' s3').toArray, .int .i64 (adE S.sv r)])) w' :=
  ⟨S', s', s3', by rw [foldQ_yes hR], hfr, hn, by unfold foldV; rw [foldQ_yes hR]; exact hv⟩
theorem sz30rg : (Try.prog.info? 30).map (·.size) = some 9 := by kernel_rfl
theorem sz45rg : (Try.prog.info? 45).map (·.size) = some 149 := by kernel_rfl
theorem tx12rg : Txt Try.prog 12 := txt_of Try.func12 rfl (by kernel_rfl)
theorem tx24rg : Txt Try.prog 24 := txt_of Try.func24 rfl (by kernel_rfl)
theorem tx25rg : Txt Try.prog 25 := txt_of Try.func25 rfl (by kernel_rfl)
theorem tx26rg : Txt Try.prog 26 := txt_of Try.func26 rfl (by kernel_rfl)
theorem z30rg : (Try.prog.info? 30).bind (·.zero) = some (.agg [.int .i64 0, .int .i64 0, .int .i64 0, .int .i64 0, .slice none 0 0, .slice none 0 0, .string ByteArray.empty, .slice none 0 0, .slice none 0 0].toArray) := by kernel_rfl

theorem rfold_w (S : SvS) (s s3 : Sp) (r : Rec) (ra rb rc rd : Sp) (w : World) (f1 : FA w (svF S s s3)) (f2 : FA w (rcA (r, ra, rb, rc, rd))) (hz : SzB S) (hB : SzC r.2.2.2.1.2.2.2.2 ∧ SzC r.2.2.2.2.2.1.2.2.1) (hi : -9223372036854775808 ≤ r.2.2.2.1.1 ∧ r.2.2.2.1.1 ≤ 9223372036854775807) :
    Calls Try.prog 10 #[.agg (svX S s s3).toArray, .agg (recX r ra rb rc rd).toArray] w fun e w' => RFP S r w e w' := by
  refine calls_of (args := [.agg (svX S s s3).toArray, .agg (recX r ra rb rc rd).toArray]) ([]) ([]) ([svF S s s3, rcA (r, ra, rb, rc, rd)]) Try.func10 rfl rfl (okFW (.cons f1 (.cons f2 .nil))) ?_
  refine J_seq ?_
  refine J_region ?_
  refine L_box rfl rfl rfl rfl rfl (fun b0 => ?_)
  refine L_box rfl rfl rfl rfl rfl (fun b1 => ?_)
  refine L_alloc rfl rfl rfl rfl z30rg (fun b2 => ?_)
  refine L_v rfl rfl rfl (V_assign rfl rfl) ?_
  refine L_nil ?_
  change J _ _ _ _
  refine J_seq ?_
  refine J_seq ?_
  refine J_region ?_
  refine L_v rfl rfl rfl (V_loadT 0 (vs := svC S.t S.v S.sn S.a S.b (.slice s.1 S.es.length s.2) (.slice s3.1 S.gl.length s3.2)) rfl rfl rfl Try.underlying30 rfl sz30rg (by kernel_rfl) (by kernel_rfl)) ?_
  refine L_callV rfl rfl rfl rfl rfl rfl tx12rg (fun w1 hw => rright_w S s s3 w1 (hw.fa 0 rfl) hz) ?_
  refine L_v rfl rfl rfl (V_not rfl rfl rfl) ?_
  refine L_nil ?_
  change J _ _ _ _
  refine J_cond rfl (fun h1 => ?_) (fun h1 => ?_)
  ·
    first | (have h1 := of_decide_eq_true h1) | (have h1 := of_decide_eq_false h1) | skip
    refine J_seq ?_
    refine J_region ?_
    refine L_callV rfl rfl rfl rfl rfl rfl tx24rg (fun w1 hw => no_w _ w1) ?_
    refine L_v rfl rfl rfl (V_extract rfl rfl rfl) ?_
    refine L_v rfl rfl rfl (V_extract rfl rfl rfl) ?_
    refine L_storeW 2 rfl rfl rfl rfl rfl rfl (szd sz30rg (by kernel_rfl)) (all_one (by kernel_rfl)) (by kernel_rfl) ?_
    refine L_v rfl rfl rfl (V_assign rfl rfl) ?_
    refine L_nil ?_
    change J _ _ _ _
    refine J_ret ?_
    change Kret _ _ _ Exit.ret _
    refine ret2 rfl rfl (RV_c 2 rfl rfl Try.underlying30 rfl (szd sz30rg (by kernel_rfl))) (RV_t rfl) ?_
    exact fun w' h => rfp_no (q_right (of_decide_eq_false (bnT h1))) h.fr
  ·
    first | (have h1 := of_decide_eq_true h1) | (have h1 := of_decide_eq_false h1) | skip
    have hR := of_decide_eq_true (bnF h1)
    refine J_skip ?_
    change J _ _ _ _
    refine J_seq ?_
    refine J_seq ?_
    refine J_region ?_
    refine L_v rfl rfl rfl (V_loadT 1 (vs := recX r ra rb rc rd) rfl rfl rfl Try.underlying45 rfl sz45rg (by kernel_rfl) (by kernel_rfl)) ?_
    refine L_callV rfl rfl rfl rfl rfl rfl tx25rg (fun w1 hw => rmay_w r ra rb rc rd w1 (hw.fa 1 rfl) hB) ?_
    refine L_v rfl rfl rfl (V_not rfl rfl rfl) ?_
    refine L_nil ?_
    change J _ _ _ _
    refine J_cond rfl (fun h2 => ?_) (fun h2 => ?_)
    ·
      first | (have h2 := of_decide_eq_true h2) | (have h2 := of_decide_eq_false h2) | skip
      refine J_seq ?_
      refine J_region ?_
      refine L_callV rfl rfl rfl rfl rfl rfl tx24rg (fun w1 hw => no_w _ w1) ?_
      refine L_v rfl rfl rfl (V_extract rfl rfl rfl) ?_
      refine L_v rfl rfl rfl (V_extract rfl rfl rfl) ?_
      refine L_storeW 2 rfl rfl rfl rfl rfl rfl (szd sz30rg (by kernel_rfl)) (all_one (by kernel_rfl)) (by kernel_rfl) ?_
      refine L_v rfl rfl rfl (V_assign rfl rfl) ?_
      refine L_nil ?_
      change J _ _ _ _
      refine J_ret ?_
      change Kret _ _ _ Exit.ret _
      refine ret2 rfl rfl (RV_c 2 rfl rfl Try.underlying30 rfl (szd sz30rg (by kernel_rfl))) (RV_t rfl) ?_
      exact fun w' h => rfp_no (q_may hR (fun hh => by rw [hh.1, decide_eq_true hh.2] at h2; cases h2)) h.fr
    ·
      first | (have h2 := of_decide_eq_true h2) | (have h2 := of_decide_eq_false h2) | skip
      have hok : okR r = true ∧ MayR r := by
        have h3 := bnF h2
        rw [Bool.and_eq_true, decide_eq_true_eq] at h3
        exact h3
      refine J_skip ?_
      change J _ _ _ _
      refine J_seq ?_
      refine J_region ?_
      refine L_v rfl rfl rfl (V_loadT 0 (vs := svC S.t S.v S.sn S.a S.b (.slice s.1 S.es.length s.2) (.slice s3.1 S.gl.length s3.2)) rfl rfl rfl Try.underlying30 rfl sz30rg (by kernel_rfl) (by kernel_rfl)) ?_
      refine L_v rfl rfl rfl (V_loadT 1 (vs := recX r ra rb rc rd) rfl rfl rfl Try.underlying45 rfl sz45rg (by kernel_rfl) (by kernel_rfl)) ?_
      refine L_call rfl rfl rfl rfl tx26rg (fun w1 hw => (folded_w S s s3 r ra rb rc rd w1 (hw.fa 0 rfl) (hw.fa 1 rfl) hz hB hi hR hok).mono ?_)
      rintro e w' ⟨S', s', u', rfl, hfr, hn1, hv⟩
      have n1 : ∀ k, (svF S' s' u').fp k → w.heap.size ≤ k := fun k hk => Nat.le_trans hw.fr.size (hn1.new k hk)
      refine ⟨_, _, _, rfl, hw.newN hfr hn1, rfl, ?_⟩
      refine L_v rfl rfl rfl (V_extract rfl rfl rfl) ?_
      refine L_v rfl rfl rfl (V_extract rfl rfl rfl) ?_
      refine L_storeW 2 rfl rfl rfl rfl rfl rfl (szd sz30rg (by kernel_rfl)) (all_one (by kernel_rfl)) (by kernel_rfl) ?_
      refine L_v rfl rfl rfl (V_assign rfl rfl) ?_
      refine L_nil ?_
      change J _ _ _ _
      refine J_ret ?_
      change Kret _ _ _ Exit.ret _
      refine ret2 rfl rfl (RV_c 2 rfl rfl Try.underlying30 rfl (szd sz30rg (by kernel_rfl))) (RV_t rfl) ?_
      exact fun w' h => rfp_yes hR h.fr (NewF.at h 2 rfl n1) hv

end Go.Proofs.Ytcdenfkbhefbbaa
