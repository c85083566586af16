/- What the law comes to. -/
import Derived.Test.YtokpnjbfbkphiaaPath
set_option linter.unusedVariables false
set_option linter.unusedSimpArgs false
set_option maxRecDepth 100000
namespace Go.Proofs.Ytokpnjbfbkphiaa
open Go.Sx
theorem sz23l : (Try.prog.info? 23).map (·.size) = some 32 := by kernel_rfl
theorem tx14l : Txt Try.prog 14 := txt_of Try.func14 rfl (by kernel_rfl)
theorem tx15l : Txt Try.prog 15 := txt_of Try.func15 rfl (by kernel_rfl)
theorem tx16l : Txt Try.prog 16 := txt_of Try.func16 rfl (by kernel_rfl)
theorem tx17l : Txt Try.prog 17 := txt_of Try.func17 rfl (by kernel_rfl)
theorem tx18l : Txt Try.prog 18 := txt_of Try.func18 rfl (by kernel_rfl)
theorem tx19l : Txt Try.prog 19 := txt_of Try.func19 rfl (by kernel_rfl)
theorem tx20l : Txt Try.prog 20 := txt_of Try.func20 rfl (by kernel_rfl)
theorem z23l : (Try.prog.info? 23).bind (·.zero) = some (.agg (dg zd).toArray) := by kernel_rfl

theorem PathCommon_w (a b : List Int) (i : Int) (w : World) (ha : a.length = 32) (hb : b.length = 32) (hA : Byt a) (hB : Byt b) :
    Calls Try.prog 5 #[.agg (dg a).toArray, .agg (dg b).toArray, .int .i64 i] w fun e w' => e = .returned (.bool true) ∧ Fr [] w w' := by
  have htw := bitOf_two a i
  refine calls_of (args := [.agg (dg a).toArray, .agg (dg b).toArray, .int .i64 i]) ([]) ([]) ([]) Try.func5 rfl rfl (okW0 _ _ _ _) ?_
  refine J_seq ?_
  refine J_region ?_
  refine L_box rfl rfl rfl rfl rfl (fun b0 => ?_)
  refine L_box rfl rfl rfl rfl rfl (fun b1 => ?_)
  refine L_v rfl rfl rfl (V_assign rfl rfl) ?_
  refine L_nil ?_
  change J _ _ _ _
  refine J_seq ?_
  refine J_region ?_
  refine L_v rfl rfl rfl (V_loadW 0 rfl rfl rfl Try.underlying23 rfl (szd sz23l (by simp [dg_length, setBit_length, mix_length, zd_length, pre, withV_length, preV_length, *]))) ?_
  refine L_alloc rfl rfl rfl rfl z23l (fun b2 => ?_)
  refine L_storeW 2 rfl rfl rfl rfl rfl rfl (szd sz23l (by simp [dg_length, setBit_length, mix_length, zd_length, pre, withV_length, preV_length, *])) (dg_one _) (by simp [dg_length, setBit_length, mix_length, zd_length, pre, withV_length, preV_length, *]) ?_
  refine L_nil ?_
  change J _ _ _ _
  refine J_seq ?_
  refine J_seq ?_
  refine J_region ?_
  refine L_v rfl rfl rfl (V_move rfl rfl) ?_
  refine L_v rfl rfl rfl (V_geq rfl rfl rfl (by first | exact decide_eq_true (by omega) | exact decide_eq_false (by omega) | rfl)) ?_
  refine L_v rfl rfl rfl (V_move rfl rfl) ?_
  refine L_split 13 rfl (fun h1 => ?_) (fun h1 => ?_)
  ·
    first | (have h1 := of_decide_eq_true h1) | (have h1 := of_decide_eq_false h1) | skip
    refine L_wv rfl rfl rfl rfl rfl rfl (V_move rfl rfl) ?_
    refine L_wv rfl rfl rfl rfl rfl rfl (V_lss rfl rfl rfl (by first | exact decide_eq_true (by omega) | exact decide_eq_false (by omega) | rfl)) ?_
    first | refine L_v rfl rfl rfl (V_pickT rfl rfl rfl) ?_ | refine L_v rfl rfl rfl (V_pickF rfl rfl rfl) ?_
    refine L_nil ?_
    change J _ _ _ _
    refine J_cond rfl (fun h2 => ?_) (fun h2 => ?_)
    ·
      first | (have h2 := of_decide_eq_true h2) | (have h2 := of_decide_eq_false h2) | skip
      refine J_regionO [(0, false), (1, false), (2, false), (3, false), (4, true), (5, false), (6, true), (7, false), (8, false), (9, false), (10, true)] ([(b0, row 23 (dg a)), (b1, row 23 (dg b))]) _ (Pk.of_sub (List.Sublist.cons_cons _ (List.Sublist.cons_cons _ (List.nil_sublist _)))) (fun f hf => hf) rfl rfl (by kernel_rfl) ?_
      refine LO_v rfl rfl rfl rfl (V_loadW 0 rfl rfl rfl Try.underlying23 rfl (szd sz23l (by simp [dg_length, setBit_length, mix_length, zd_length, pre, withV_length, preV_length, *]))) ?_
      refine LO_v rfl rfl rfl rfl (V_move rfl rfl) ?_
      refine LO_v rfl rfl rfl rfl (V_loadW 0 rfl rfl rfl Try.underlying23 rfl (szd sz23l (by simp [dg_length, setBit_length, mix_length, zd_length, pre, withV_length, preV_length, *]))) ?_
      refine LO_v rfl rfl rfl rfl (V_move rfl rfl) ?_
      refine LO_callV rfl rfl rfl rfl rfl rfl rfl rfl tx16l (fun w _ => at_w _ _ w (by first | assumption | exact withV_length (by assumption) _ _ | exact preV_length _ _) (by first | assumption | exact byt128 | exact byt129 | exact withV_byt (by assumption) _ _ | exact preV_byt (by assumption) _) (by omega) (by omega)) (Pk.of_sub (List.Sublist.cons_cons _ (List.Sublist.cons_cons _ (List.nil_sublist _)))) (fun f hf => hf) ?_
      refine LO_v rfl rfl rfl rfl (V_sub rfl rfl rfl (by first | exact Go.IntWalk.i64_in _ (by omega) | rfl)) ?_
      refine LO_callV rfl rfl rfl rfl rfl rfl rfl rfl tx15l (fun w _ => rwith_w _ _ _ w (by first | assumption | exact withV_length (by assumption) _ _ | exact preV_length _ _) (by first | assumption | exact byt128 | exact byt129 | exact withV_byt (by assumption) _ _ | exact preV_byt (by assumption) _)) (Pk.of_sub (List.Sublist.cons_cons _ (List.Sublist.cons_cons _ (List.nil_sublist _)))) (fun f hf => hf) ?_
      refine LO_v rfl rfl rfl rfl (V_move rfl rfl) ?_
      refine LO_v rfl rfl rfl rfl (V_extract rfl rfl rfl) ?_
      refine LO_v rfl rfl rfl rfl (V_extract rfl rfl rfl) ?_
      refine LO_s rfl rfl rfl (S_storeW 2 rfl rfl rfl rfl rfl (szd sz23l (by simp [dg_length, setBit_length, mix_length, zd_length, pre, withV_length, preV_length, *])) (dg_one _) (by simp [dg_length, setBit_length, mix_length, zd_length, pre, withV_length, preV_length, *]) ⟨Pk.of_sub (List.Sublist.cons_cons _ (List.Sublist.cons_cons _ (List.nil_sublist _))), fun f hf => hf, ?_⟩)
      refine LO_nil ?_
      change J _ _ _ _
      refine J_seq ?_
      refine J_regionQ rfl (by kernel_rfl) ?_
      refine LQ_v rfl rfl rfl (V_loadW 0 rfl rfl rfl Try.underlying23 rfl (szd sz23l (by simp [dg_length, setBit_length, mix_length, zd_length, pre, withV_length, preV_length, *]))) ?_
      refine LQ_v rfl rfl rfl (V_loadW 1 rfl rfl rfl Try.underlying23 rfl (szd sz23l (by simp [dg_length, setBit_length, mix_length, zd_length, pre, withV_length, preV_length, *]))) ?_
      refine LQ_callV rfl rfl rfl rfl rfl rfl tx17l (fun w _ => common_w _ _ w (by first | assumption | exact withV_length (by assumption) _ _ | exact preV_length _ _) (by first | assumption | exact withV_length (by assumption) _ _ | exact preV_length _ _) (by first | assumption | exact byt128 | exact byt129 | exact withV_byt (by assumption) _ _ | exact preV_byt (by assumption) _) (by first | assumption | exact byt128 | exact byt129 | exact withV_byt (by assumption) _ _ | exact preV_byt (by assumption) _)) ?_
      refine LQ_v rfl rfl rfl (V_loadW 0 rfl rfl rfl Try.underlying23 rfl (szd sz23l (by simp [dg_length, setBit_length, mix_length, zd_length, pre, withV_length, preV_length, *]))) ?_
      refine LQ_v rfl rfl rfl (V_loadW 1 rfl rfl rfl Try.underlying23 rfl (szd sz23l (by simp [dg_length, setBit_length, mix_length, zd_length, pre, withV_length, preV_length, *]))) ?_
      refine LQ_callV rfl rfl rfl rfl rfl rfl tx18l (fun w _ => rcommon_w _ _ w (by first | assumption | exact withV_length (by assumption) _ _ | exact preV_length _ _) (by first | assumption | exact withV_length (by assumption) _ _ | exact preV_length _ _) (by first | assumption | exact byt128 | exact byt129 | exact withV_byt (by assumption) _ _ | exact preV_byt (by assumption) _) (by first | assumption | exact byt128 | exact byt129 | exact withV_byt (by assumption) _ _ | exact preV_byt (by assumption) _)) ?_
      refine LQ_v rfl rfl rfl (V_eql rfl rfl rfl (by first | exact decide_eq_true (by omega) | exact decide_eq_false (by omega) | rfl)) ?_
      refine LQ_v rfl rfl rfl (V_move rfl rfl) ?_
      refine LQ_wv rfl rfl rfl rfl rfl rfl (V_loadW 0 rfl rfl rfl Try.underlying23 rfl (szd sz23l (by simp [dg_length, setBit_length, mix_length, zd_length, pre, withV_length, preV_length, *]))) ?_
      refine LQ_wv rfl rfl rfl rfl rfl rfl (V_loadW 1 rfl rfl rfl Try.underlying23 rfl (szd sz23l (by simp [dg_length, setBit_length, mix_length, zd_length, pre, withV_length, preV_length, *]))) ?_
      refine LQ_wcallV rfl rfl rfl rfl rfl rfl rfl rfl rfl tx19l (fun w _ => less_w _ _ w (by first | assumption | exact withV_length (by assumption) _ _ | exact preV_length _ _) (by first | assumption | exact withV_length (by assumption) _ _ | exact preV_length _ _) (by first | assumption | exact byt128 | exact byt129 | exact withV_byt (by assumption) _ _ | exact preV_byt (by assumption) _) (by first | assumption | exact byt128 | exact byt129 | exact withV_byt (by assumption) _ _ | exact preV_byt (by assumption) _)) ?_
      refine LQ_wv rfl rfl rfl rfl rfl rfl (V_loadW 0 rfl rfl rfl Try.underlying23 rfl (szd sz23l (by simp [dg_length, setBit_length, mix_length, zd_length, pre, withV_length, preV_length, *]))) ?_
      refine LQ_wv rfl rfl rfl rfl rfl rfl (V_loadW 1 rfl rfl rfl Try.underlying23 rfl (szd sz23l (by simp [dg_length, setBit_length, mix_length, zd_length, pre, withV_length, preV_length, *]))) ?_
      refine LQ_wcallV rfl rfl rfl rfl rfl rfl rfl rfl rfl tx20l (fun w _ => rless_w _ _ w (by first | assumption | exact withV_length (by assumption) _ _ | exact preV_length _ _) (by first | assumption | exact withV_length (by assumption) _ _ | exact preV_length _ _) (by first | assumption | exact byt128 | exact byt129 | exact withV_byt (by assumption) _ _ | exact preV_byt (by assumption) _) (by first | assumption | exact byt128 | exact byt129 | exact withV_byt (by assumption) _ _ | exact preV_byt (by assumption) _)) ?_
      refine LQ_wv rfl rfl rfl rfl rfl rfl (V_eqB rfl rfl rfl Try.underlying4 (beq_self_eq_true _)) ?_
      first | refine LQ_v rfl rfl rfl (V_pickT rfl rfl rfl) ?_ | refine LQ_v rfl rfl rfl (V_pickF rfl rfl rfl) ?_
      refine LQ_v rfl rfl rfl (V_assign rfl rfl) ?_
      refine LQ_nil ?_
      change J _ _ _ _
      refine J_seq ?_
      refine J_regionQ rfl (by kernel_rfl) ?_
      refine LQ_v rfl rfl rfl (V_loadW 0 rfl rfl rfl Try.underlying23 rfl (szd sz23l (by simp [dg_length, setBit_length, mix_length, zd_length, pre, withV_length, preV_length, *]))) ?_
      refine LQ_v rfl rfl rfl (V_loadW 2 rfl rfl rfl Try.underlying23 rfl (szd sz23l (by simp [dg_length, setBit_length, mix_length, zd_length, pre, withV_length, preV_length, *]))) ?_
      refine LQ_callV rfl rfl rfl rfl rfl rfl tx17l (fun w _ => common_w _ _ w (by first | assumption | exact withV_length (by assumption) _ _ | exact preV_length _ _) (by first | assumption | exact withV_length (by assumption) _ _ | exact preV_length _ _) (by first | assumption | exact byt128 | exact byt129 | exact withV_byt (by assumption) _ _ | exact preV_byt (by assumption) _) (by first | assumption | exact byt128 | exact byt129 | exact withV_byt (by assumption) _ _ | exact preV_byt (by assumption) _)) ?_
      refine LQ_v rfl rfl rfl (V_loadW 0 rfl rfl rfl Try.underlying23 rfl (szd sz23l (by simp [dg_length, setBit_length, mix_length, zd_length, pre, withV_length, preV_length, *]))) ?_
      refine LQ_v rfl rfl rfl (V_loadW 2 rfl rfl rfl Try.underlying23 rfl (szd sz23l (by simp [dg_length, setBit_length, mix_length, zd_length, pre, withV_length, preV_length, *]))) ?_
      refine LQ_callV rfl rfl rfl rfl rfl rfl tx18l (fun w _ => rcommon_w _ _ w (by first | assumption | exact withV_length (by assumption) _ _ | exact preV_length _ _) (by first | assumption | exact withV_length (by assumption) _ _ | exact preV_length _ _) (by first | assumption | exact byt128 | exact byt129 | exact withV_byt (by assumption) _ _ | exact preV_byt (by assumption) _) (by first | assumption | exact byt128 | exact byt129 | exact withV_byt (by assumption) _ _ | exact preV_byt (by assumption) _)) ?_
      refine LQ_v rfl rfl rfl (V_eql rfl rfl rfl (by first | exact decide_eq_true (by omega) | exact decide_eq_false (by omega) | rfl)) ?_
      refine LQ_v rfl rfl rfl (V_move rfl rfl) ?_
      refine LQ_wv rfl rfl rfl rfl rfl rfl (V_loadW 0 rfl rfl rfl Try.underlying23 rfl (szd sz23l (by simp [dg_length, setBit_length, mix_length, zd_length, pre, withV_length, preV_length, *]))) ?_
      refine LQ_wv rfl rfl rfl rfl rfl rfl (V_loadW 2 rfl rfl rfl Try.underlying23 rfl (szd sz23l (by simp [dg_length, setBit_length, mix_length, zd_length, pre, withV_length, preV_length, *]))) ?_
      refine LQ_wcallV rfl rfl rfl rfl rfl rfl rfl rfl rfl tx19l (fun w _ => less_w _ _ w (by first | assumption | exact withV_length (by assumption) _ _ | exact preV_length _ _) (by first | assumption | exact withV_length (by assumption) _ _ | exact preV_length _ _) (by first | assumption | exact byt128 | exact byt129 | exact withV_byt (by assumption) _ _ | exact preV_byt (by assumption) _) (by first | assumption | exact byt128 | exact byt129 | exact withV_byt (by assumption) _ _ | exact preV_byt (by assumption) _)) ?_
      refine LQ_wv rfl rfl rfl rfl rfl rfl (V_loadW 0 rfl rfl rfl Try.underlying23 rfl (szd sz23l (by simp [dg_length, setBit_length, mix_length, zd_length, pre, withV_length, preV_length, *]))) ?_
      refine LQ_wv rfl rfl rfl rfl rfl rfl (V_loadW 2 rfl rfl rfl Try.underlying23 rfl (szd sz23l (by simp [dg_length, setBit_length, mix_length, zd_length, pre, withV_length, preV_length, *]))) ?_
      refine LQ_wcallV rfl rfl rfl rfl rfl rfl rfl rfl rfl tx20l (fun w _ => rless_w _ _ w (by first | assumption | exact withV_length (by assumption) _ _ | exact preV_length _ _) (by first | assumption | exact withV_length (by assumption) _ _ | exact preV_length _ _) (by first | assumption | exact byt128 | exact byt129 | exact withV_byt (by assumption) _ _ | exact preV_byt (by assumption) _) (by first | assumption | exact byt128 | exact byt129 | exact withV_byt (by assumption) _ _ | exact preV_byt (by assumption) _)) ?_
      refine LQ_wv rfl rfl rfl rfl rfl rfl (V_eqB rfl rfl rfl Try.underlying4 (beq_self_eq_true _)) ?_
      first | refine LQ_v rfl rfl rfl (V_pickT rfl rfl rfl) ?_ | refine LQ_v rfl rfl rfl (V_pickF rfl rfl rfl) ?_
      refine LQ_v rfl rfl rfl (V_assign rfl rfl) ?_
      refine LQ_nil ?_
      change J _ _ _ _
      refine J_seq ?_
      refine J_region ?_
      refine L_callV rfl rfl rfl rfl rfl rfl tx14l (fun w _ => commons_w w) ?_
      refine L_v rfl rfl rfl (V_move rfl rfl) ?_
      refine L_wv rfl rfl rfl rfl rfl rfl (V_move rfl rfl) ?_
      first | refine L_v rfl rfl rfl (V_pickT rfl rfl rfl) ?_ | refine L_v rfl rfl rfl (V_pickF rfl rfl rfl) ?_
      refine L_v rfl rfl rfl (V_move rfl rfl) ?_
      refine L_wv rfl rfl rfl rfl rfl rfl (V_move rfl rfl) ?_
      first | refine L_v rfl rfl rfl (V_pickT rfl rfl rfl) ?_ | refine L_v rfl rfl rfl (V_pickF rfl rfl rfl) ?_
      refine L_v rfl rfl rfl (V_assign rfl rfl) ?_
      refine L_nil ?_
      change J _ _ _ _
      refine J_ret ?_
      change Kret _ _ _ Exit.ret _
      refine ret1 rfl rfl (RV_t rfl) ?_
      exact fun w' h => ⟨rfl, h.fr⟩
    ·
      first | (have h2 := of_decide_eq_true h2) | (have h2 := of_decide_eq_false h2) | skip
      refine J_skip ?_
      change J _ _ _ _
      refine J_seq ?_
      refine J_regionQ rfl (by kernel_rfl) ?_
      refine LQ_v rfl rfl rfl (V_loadW 0 rfl rfl rfl Try.underlying23 rfl (szd sz23l (by simp [dg_length, setBit_length, mix_length, zd_length, pre, withV_length, preV_length, *]))) ?_
      refine LQ_v rfl rfl rfl (V_loadW 1 rfl rfl rfl Try.underlying23 rfl (szd sz23l (by simp [dg_length, setBit_length, mix_length, zd_length, pre, withV_length, preV_length, *]))) ?_
      refine LQ_callV rfl rfl rfl rfl rfl rfl tx17l (fun w _ => common_w _ _ w (by first | assumption | exact withV_length (by assumption) _ _ | exact preV_length _ _) (by first | assumption | exact withV_length (by assumption) _ _ | exact preV_length _ _) (by first | assumption | exact byt128 | exact byt129 | exact withV_byt (by assumption) _ _ | exact preV_byt (by assumption) _) (by first | assumption | exact byt128 | exact byt129 | exact withV_byt (by assumption) _ _ | exact preV_byt (by assumption) _)) ?_
      refine LQ_v rfl rfl rfl (V_loadW 0 rfl rfl rfl Try.underlying23 rfl (szd sz23l (by simp [dg_length, setBit_length, mix_length, zd_length, pre, withV_length, preV_length, *]))) ?_
      refine LQ_v rfl rfl rfl (V_loadW 1 rfl rfl rfl Try.underlying23 rfl (szd sz23l (by simp [dg_length, setBit_length, mix_length, zd_length, pre, withV_length, preV_length, *]))) ?_
      refine LQ_callV rfl rfl rfl rfl rfl rfl tx18l (fun w _ => rcommon_w _ _ w (by first | assumption | exact withV_length (by assumption) _ _ | exact preV_length _ _) (by first | assumption | exact withV_length (by assumption) _ _ | exact preV_length _ _) (by first | assumption | exact byt128 | exact byt129 | exact withV_byt (by assumption) _ _ | exact preV_byt (by assumption) _) (by first | assumption | exact byt128 | exact byt129 | exact withV_byt (by assumption) _ _ | exact preV_byt (by assumption) _)) ?_
      refine LQ_v rfl rfl rfl (V_eql rfl rfl rfl (by first | exact decide_eq_true (by omega) | exact decide_eq_false (by omega) | rfl)) ?_
      refine LQ_v rfl rfl rfl (V_move rfl rfl) ?_
      refine LQ_wv rfl rfl rfl rfl rfl rfl (V_loadW 0 rfl rfl rfl Try.underlying23 rfl (szd sz23l (by simp [dg_length, setBit_length, mix_length, zd_length, pre, withV_length, preV_length, *]))) ?_
      refine LQ_wv rfl rfl rfl rfl rfl rfl (V_loadW 1 rfl rfl rfl Try.underlying23 rfl (szd sz23l (by simp [dg_length, setBit_length, mix_length, zd_length, pre, withV_length, preV_length, *]))) ?_
      refine LQ_wcallV rfl rfl rfl rfl rfl rfl rfl rfl rfl tx19l (fun w _ => less_w _ _ w (by first | assumption | exact withV_length (by assumption) _ _ | exact preV_length _ _) (by first | assumption | exact withV_length (by assumption) _ _ | exact preV_length _ _) (by first | assumption | exact byt128 | exact byt129 | exact withV_byt (by assumption) _ _ | exact preV_byt (by assumption) _) (by first | assumption | exact byt128 | exact byt129 | exact withV_byt (by assumption) _ _ | exact preV_byt (by assumption) _)) ?_
      refine LQ_wv rfl rfl rfl rfl rfl rfl (V_loadW 0 rfl rfl rfl Try.underlying23 rfl (szd sz23l (by simp [dg_length, setBit_length, mix_length, zd_length, pre, withV_length, preV_length, *]))) ?_
      refine LQ_wv rfl rfl rfl rfl rfl rfl (V_loadW 1 rfl rfl rfl Try.underlying23 rfl (szd sz23l (by simp [dg_length, setBit_length, mix_length, zd_length, pre, withV_length, preV_length, *]))) ?_
      refine LQ_wcallV rfl rfl rfl rfl rfl rfl rfl rfl rfl tx20l (fun w _ => rless_w _ _ w (by first | assumption | exact withV_length (by assumption) _ _ | exact preV_length _ _) (by first | assumption | exact withV_length (by assumption) _ _ | exact preV_length _ _) (by first | assumption | exact byt128 | exact byt129 | exact withV_byt (by assumption) _ _ | exact preV_byt (by assumption) _) (by first | assumption | exact byt128 | exact byt129 | exact withV_byt (by assumption) _ _ | exact preV_byt (by assumption) _)) ?_
      refine LQ_wv rfl rfl rfl rfl rfl rfl (V_eqB rfl rfl rfl Try.underlying4 (beq_self_eq_true _)) ?_
      first | refine LQ_v rfl rfl rfl (V_pickT rfl rfl rfl) ?_ | refine LQ_v rfl rfl rfl (V_pickF rfl rfl rfl) ?_
      refine LQ_v rfl rfl rfl (V_assign rfl rfl) ?_
      refine LQ_nil ?_
      change J _ _ _ _
      refine J_seq ?_
      refine J_regionQ rfl (by kernel_rfl) ?_
      refine LQ_v rfl rfl rfl (V_loadW 0 rfl rfl rfl Try.underlying23 rfl (szd sz23l (by simp [dg_length, setBit_length, mix_length, zd_length, pre, withV_length, preV_length, *]))) ?_
      refine LQ_v rfl rfl rfl (V_loadW 2 rfl rfl rfl Try.underlying23 rfl (szd sz23l (by simp [dg_length, setBit_length, mix_length, zd_length, pre, withV_length, preV_length, *]))) ?_
      refine LQ_callV rfl rfl rfl rfl rfl rfl tx17l (fun w _ => common_w _ _ w (by first | assumption | exact withV_length (by assumption) _ _ | exact preV_length _ _) (by first | assumption | exact withV_length (by assumption) _ _ | exact preV_length _ _) (by first | assumption | exact byt128 | exact byt129 | exact withV_byt (by assumption) _ _ | exact preV_byt (by assumption) _) (by first | assumption | exact byt128 | exact byt129 | exact withV_byt (by assumption) _ _ | exact preV_byt (by assumption) _)) ?_
      refine LQ_v rfl rfl rfl (V_loadW 0 rfl rfl rfl Try.underlying23 rfl (szd sz23l (by simp [dg_length, setBit_length, mix_length, zd_length, pre, withV_length, preV_length, *]))) ?_
      refine LQ_v rfl rfl rfl (V_loadW 2 rfl rfl rfl Try.underlying23 rfl (szd sz23l (by simp [dg_length, setBit_length, mix_length, zd_length, pre, withV_length, preV_length, *]))) ?_
      refine LQ_callV rfl rfl rfl rfl rfl rfl tx18l (fun w _ => rcommon_w _ _ w (by first | assumption | exact withV_length (by assumption) _ _ | exact preV_length _ _) (by first | assumption | exact withV_length (by assumption) _ _ | exact preV_length _ _) (by first | assumption | exact byt128 | exact byt129 | exact withV_byt (by assumption) _ _ | exact preV_byt (by assumption) _) (by first | assumption | exact byt128 | exact byt129 | exact withV_byt (by assumption) _ _ | exact preV_byt (by assumption) _)) ?_
      refine LQ_v rfl rfl rfl (V_eql rfl rfl rfl (by first | exact decide_eq_true (by omega) | exact decide_eq_false (by omega) | rfl)) ?_
      refine LQ_v rfl rfl rfl (V_move rfl rfl) ?_
      refine LQ_wv rfl rfl rfl rfl rfl rfl (V_loadW 0 rfl rfl rfl Try.underlying23 rfl (szd sz23l (by simp [dg_length, setBit_length, mix_length, zd_length, pre, withV_length, preV_length, *]))) ?_
      refine LQ_wv rfl rfl rfl rfl rfl rfl (V_loadW 2 rfl rfl rfl Try.underlying23 rfl (szd sz23l (by simp [dg_length, setBit_length, mix_length, zd_length, pre, withV_length, preV_length, *]))) ?_
      refine LQ_wcallV rfl rfl rfl rfl rfl rfl rfl rfl rfl tx19l (fun w _ => less_w _ _ w (by first | assumption | exact withV_length (by assumption) _ _ | exact preV_length _ _) (by first | assumption | exact withV_length (by assumption) _ _ | exact preV_length _ _) (by first | assumption | exact byt128 | exact byt129 | exact withV_byt (by assumption) _ _ | exact preV_byt (by assumption) _) (by first | assumption | exact byt128 | exact byt129 | exact withV_byt (by assumption) _ _ | exact preV_byt (by assumption) _)) ?_
      refine LQ_wv rfl rfl rfl rfl rfl rfl (V_loadW 0 rfl rfl rfl Try.underlying23 rfl (szd sz23l (by simp [dg_length, setBit_length, mix_length, zd_length, pre, withV_length, preV_length, *]))) ?_
      refine LQ_wv rfl rfl rfl rfl rfl rfl (V_loadW 2 rfl rfl rfl Try.underlying23 rfl (szd sz23l (by simp [dg_length, setBit_length, mix_length, zd_length, pre, withV_length, preV_length, *]))) ?_
      refine LQ_wcallV rfl rfl rfl rfl rfl rfl rfl rfl rfl tx20l (fun w _ => rless_w _ _ w (by first | assumption | exact withV_length (by assumption) _ _ | exact preV_length _ _) (by first | assumption | exact withV_length (by assumption) _ _ | exact preV_length _ _) (by first | assumption | exact byt128 | exact byt129 | exact withV_byt (by assumption) _ _ | exact preV_byt (by assumption) _) (by first | assumption | exact byt128 | exact byt129 | exact withV_byt (by assumption) _ _ | exact preV_byt (by assumption) _)) ?_
      refine LQ_wv rfl rfl rfl rfl rfl rfl (V_eqB rfl rfl rfl Try.underlying4 (beq_self_eq_true _)) ?_
      first | refine LQ_v rfl rfl rfl (V_pickT rfl rfl rfl) ?_ | refine LQ_v rfl rfl rfl (V_pickF rfl rfl rfl) ?_
      refine LQ_v rfl rfl rfl (V_assign rfl rfl) ?_
      refine LQ_nil ?_
      change J _ _ _ _
      refine J_seq ?_
      refine J_region ?_
      refine L_callV rfl rfl rfl rfl rfl rfl tx14l (fun w _ => commons_w w) ?_
      refine L_v rfl rfl rfl (V_move rfl rfl) ?_
      refine L_wv rfl rfl rfl rfl rfl rfl (V_move rfl rfl) ?_
      first | refine L_v rfl rfl rfl (V_pickT rfl rfl rfl) ?_ | refine L_v rfl rfl rfl (V_pickF rfl rfl rfl) ?_
      refine L_v rfl rfl rfl (V_move rfl rfl) ?_
      refine L_wv rfl rfl rfl rfl rfl rfl (V_move rfl rfl) ?_
      first | refine L_v rfl rfl rfl (V_pickT rfl rfl rfl) ?_ | refine L_v rfl rfl rfl (V_pickF rfl rfl rfl) ?_
      refine L_v rfl rfl rfl (V_assign rfl rfl) ?_
      refine L_nil ?_
      change J _ _ _ _
      refine J_ret ?_
      change Kret _ _ _ Exit.ret _
      refine ret1 rfl rfl (RV_t rfl) ?_
      exact fun w' h => ⟨rfl, h.fr⟩
  ·
    first | (have h1 := of_decide_eq_true h1) | (have h1 := of_decide_eq_false h1) | skip
    refine L_skip rfl rfl rfl rfl rfl rfl rfl ?_
    refine L_skip rfl rfl rfl rfl rfl rfl rfl ?_
    first | refine L_v rfl rfl rfl (V_pickT rfl rfl rfl) ?_ | refine L_v rfl rfl rfl (V_pickF rfl rfl rfl) ?_
    refine L_nil ?_
    change J _ _ _ _
    refine J_false rfl ?_
    refine J_skip ?_
    change J _ _ _ _
    refine J_seq ?_
    refine J_regionQ rfl (by kernel_rfl) ?_
    refine LQ_v rfl rfl rfl (V_loadW 0 rfl rfl rfl Try.underlying23 rfl (szd sz23l (by simp [dg_length, setBit_length, mix_length, zd_length, pre, withV_length, preV_length, *]))) ?_
    refine LQ_v rfl rfl rfl (V_loadW 1 rfl rfl rfl Try.underlying23 rfl (szd sz23l (by simp [dg_length, setBit_length, mix_length, zd_length, pre, withV_length, preV_length, *]))) ?_
    refine LQ_callV rfl rfl rfl rfl rfl rfl tx17l (fun w _ => common_w _ _ w (by first | assumption | exact withV_length (by assumption) _ _ | exact preV_length _ _) (by first | assumption | exact withV_length (by assumption) _ _ | exact preV_length _ _) (by first | assumption | exact byt128 | exact byt129 | exact withV_byt (by assumption) _ _ | exact preV_byt (by assumption) _) (by first | assumption | exact byt128 | exact byt129 | exact withV_byt (by assumption) _ _ | exact preV_byt (by assumption) _)) ?_
    refine LQ_v rfl rfl rfl (V_loadW 0 rfl rfl rfl Try.underlying23 rfl (szd sz23l (by simp [dg_length, setBit_length, mix_length, zd_length, pre, withV_length, preV_length, *]))) ?_
    refine LQ_v rfl rfl rfl (V_loadW 1 rfl rfl rfl Try.underlying23 rfl (szd sz23l (by simp [dg_length, setBit_length, mix_length, zd_length, pre, withV_length, preV_length, *]))) ?_
    refine LQ_callV rfl rfl rfl rfl rfl rfl tx18l (fun w _ => rcommon_w _ _ w (by first | assumption | exact withV_length (by assumption) _ _ | exact preV_length _ _) (by first | assumption | exact withV_length (by assumption) _ _ | exact preV_length _ _) (by first | assumption | exact byt128 | exact byt129 | exact withV_byt (by assumption) _ _ | exact preV_byt (by assumption) _) (by first | assumption | exact byt128 | exact byt129 | exact withV_byt (by assumption) _ _ | exact preV_byt (by assumption) _)) ?_
    refine LQ_v rfl rfl rfl (V_eql rfl rfl rfl (by first | exact decide_eq_true (by omega) | exact decide_eq_false (by omega) | rfl)) ?_
    refine LQ_v rfl rfl rfl (V_move rfl rfl) ?_
    refine LQ_wv rfl rfl rfl rfl rfl rfl (V_loadW 0 rfl rfl rfl Try.underlying23 rfl (szd sz23l (by simp [dg_length, setBit_length, mix_length, zd_length, pre, withV_length, preV_length, *]))) ?_
    refine LQ_wv rfl rfl rfl rfl rfl rfl (V_loadW 1 rfl rfl rfl Try.underlying23 rfl (szd sz23l (by simp [dg_length, setBit_length, mix_length, zd_length, pre, withV_length, preV_length, *]))) ?_
    refine LQ_wcallV rfl rfl rfl rfl rfl rfl rfl rfl rfl tx19l (fun w _ => less_w _ _ w (by first | assumption | exact withV_length (by assumption) _ _ | exact preV_length _ _) (by first | assumption | exact withV_length (by assumption) _ _ | exact preV_length _ _) (by first | assumption | exact byt128 | exact byt129 | exact withV_byt (by assumption) _ _ | exact preV_byt (by assumption) _) (by first | assumption | exact byt128 | exact byt129 | exact withV_byt (by assumption) _ _ | exact preV_byt (by assumption) _)) ?_
    refine LQ_wv rfl rfl rfl rfl rfl rfl (V_loadW 0 rfl rfl rfl Try.underlying23 rfl (szd sz23l (by simp [dg_length, setBit_length, mix_length, zd_length, pre, withV_length, preV_length, *]))) ?_
    refine LQ_wv rfl rfl rfl rfl rfl rfl (V_loadW 1 rfl rfl rfl Try.underlying23 rfl (szd sz23l (by simp [dg_length, setBit_length, mix_length, zd_length, pre, withV_length, preV_length, *]))) ?_
    refine LQ_wcallV rfl rfl rfl rfl rfl rfl rfl rfl rfl tx20l (fun w _ => rless_w _ _ w (by first | assumption | exact withV_length (by assumption) _ _ | exact preV_length _ _) (by first | assumption | exact withV_length (by assumption) _ _ | exact preV_length _ _) (by first | assumption | exact byt128 | exact byt129 | exact withV_byt (by assumption) _ _ | exact preV_byt (by assumption) _) (by first | assumption | exact byt128 | exact byt129 | exact withV_byt (by assumption) _ _ | exact preV_byt (by assumption) _)) ?_
    refine LQ_wv rfl rfl rfl rfl rfl rfl (V_eqB rfl rfl rfl Try.underlying4 (beq_self_eq_true _)) ?_
    first | refine LQ_v rfl rfl rfl (V_pickT rfl rfl rfl) ?_ | refine LQ_v rfl rfl rfl (V_pickF rfl rfl rfl) ?_
    refine LQ_v rfl rfl rfl (V_assign rfl rfl) ?_
    refine LQ_nil ?_
    change J _ _ _ _
    refine J_seq ?_
    refine J_regionQ rfl (by kernel_rfl) ?_
    refine LQ_v rfl rfl rfl (V_loadW 0 rfl rfl rfl Try.underlying23 rfl (szd sz23l (by simp [dg_length, setBit_length, mix_length, zd_length, pre, withV_length, preV_length, *]))) ?_
    refine LQ_v rfl rfl rfl (V_loadW 2 rfl rfl rfl Try.underlying23 rfl (szd sz23l (by simp [dg_length, setBit_length, mix_length, zd_length, pre, withV_length, preV_length, *]))) ?_
    refine LQ_callV rfl rfl rfl rfl rfl rfl tx17l (fun w _ => common_w _ _ w (by first | assumption | exact withV_length (by assumption) _ _ | exact preV_length _ _) (by first | assumption | exact withV_length (by assumption) _ _ | exact preV_length _ _) (by first | assumption | exact byt128 | exact byt129 | exact withV_byt (by assumption) _ _ | exact preV_byt (by assumption) _) (by first | assumption | exact byt128 | exact byt129 | exact withV_byt (by assumption) _ _ | exact preV_byt (by assumption) _)) ?_
    refine LQ_v rfl rfl rfl (V_loadW 0 rfl rfl rfl Try.underlying23 rfl (szd sz23l (by simp [dg_length, setBit_length, mix_length, zd_length, pre, withV_length, preV_length, *]))) ?_
    refine LQ_v rfl rfl rfl (V_loadW 2 rfl rfl rfl Try.underlying23 rfl (szd sz23l (by simp [dg_length, setBit_length, mix_length, zd_length, pre, withV_length, preV_length, *]))) ?_
    refine LQ_callV rfl rfl rfl rfl rfl rfl tx18l (fun w _ => rcommon_w _ _ w (by first | assumption | exact withV_length (by assumption) _ _ | exact preV_length _ _) (by first | assumption | exact withV_length (by assumption) _ _ | exact preV_length _ _) (by first | assumption | exact byt128 | exact byt129 | exact withV_byt (by assumption) _ _ | exact preV_byt (by assumption) _) (by first | assumption | exact byt128 | exact byt129 | exact withV_byt (by assumption) _ _ | exact preV_byt (by assumption) _)) ?_
    refine LQ_v rfl rfl rfl (V_eql rfl rfl rfl (by first | exact decide_eq_true (by omega) | exact decide_eq_false (by omega) | rfl)) ?_
    refine LQ_v rfl rfl rfl (V_move rfl rfl) ?_
    refine LQ_wv rfl rfl rfl rfl rfl rfl (V_loadW 0 rfl rfl rfl Try.underlying23 rfl (szd sz23l (by simp [dg_length, setBit_length, mix_length, zd_length, pre, withV_length, preV_length, *]))) ?_
    refine LQ_wv rfl rfl rfl rfl rfl rfl (V_loadW 2 rfl rfl rfl Try.underlying23 rfl (szd sz23l (by simp [dg_length, setBit_length, mix_length, zd_length, pre, withV_length, preV_length, *]))) ?_
    refine LQ_wcallV rfl rfl rfl rfl rfl rfl rfl rfl rfl tx19l (fun w _ => less_w _ _ w (by first | assumption | exact withV_length (by assumption) _ _ | exact preV_length _ _) (by first | assumption | exact withV_length (by assumption) _ _ | exact preV_length _ _) (by first | assumption | exact byt128 | exact byt129 | exact withV_byt (by assumption) _ _ | exact preV_byt (by assumption) _) (by first | assumption | exact byt128 | exact byt129 | exact withV_byt (by assumption) _ _ | exact preV_byt (by assumption) _)) ?_
    refine LQ_wv rfl rfl rfl rfl rfl rfl (V_loadW 0 rfl rfl rfl Try.underlying23 rfl (szd sz23l (by simp [dg_length, setBit_length, mix_length, zd_length, pre, withV_length, preV_length, *]))) ?_
    refine LQ_wv rfl rfl rfl rfl rfl rfl (V_loadW 2 rfl rfl rfl Try.underlying23 rfl (szd sz23l (by simp [dg_length, setBit_length, mix_length, zd_length, pre, withV_length, preV_length, *]))) ?_
    refine LQ_wcallV rfl rfl rfl rfl rfl rfl rfl rfl rfl tx20l (fun w _ => rless_w _ _ w (by first | assumption | exact withV_length (by assumption) _ _ | exact preV_length _ _) (by first | assumption | exact withV_length (by assumption) _ _ | exact preV_length _ _) (by first | assumption | exact byt128 | exact byt129 | exact withV_byt (by assumption) _ _ | exact preV_byt (by assumption) _) (by first | assumption | exact byt128 | exact byt129 | exact withV_byt (by assumption) _ _ | exact preV_byt (by assumption) _)) ?_
    refine LQ_wv rfl rfl rfl rfl rfl rfl (V_eqB rfl rfl rfl Try.underlying4 (beq_self_eq_true _)) ?_
    first | refine LQ_v rfl rfl rfl (V_pickT rfl rfl rfl) ?_ | refine LQ_v rfl rfl rfl (V_pickF rfl rfl rfl) ?_
    refine LQ_v rfl rfl rfl (V_assign rfl rfl) ?_
    refine LQ_nil ?_
    change J _ _ _ _
    refine J_seq ?_
    refine J_region ?_
    refine L_callV rfl rfl rfl rfl rfl rfl tx14l (fun w _ => commons_w w) ?_
    refine L_v rfl rfl rfl (V_move rfl rfl) ?_
    refine L_wv rfl rfl rfl rfl rfl rfl (V_move rfl rfl) ?_
    first | refine L_v rfl rfl rfl (V_pickT rfl rfl rfl) ?_ | refine L_v rfl rfl rfl (V_pickF rfl rfl rfl) ?_
    refine L_v rfl rfl rfl (V_move rfl rfl) ?_
    refine L_wv rfl rfl rfl rfl rfl rfl (V_move rfl rfl) ?_
    first | refine L_v rfl rfl rfl (V_pickT rfl rfl rfl) ?_ | refine L_v rfl rfl rfl (V_pickF rfl rfl rfl) ?_
    refine L_v rfl rfl rfl (V_assign rfl rfl) ?_
    refine L_nil ?_
    change J _ _ _ _
    refine J_ret ?_
    change Kret _ _ _ Exit.ret _
    refine ret1 rfl rfl (RV_t rfl) ?_
    exact fun w' h => ⟨rfl, h.fr⟩

end Go.Proofs.Ytokpnjbfbkphiaa
