/- What the law comes to. -/
import Derived.Test.YtokpnjbfbkphiaaPath
set_option linter.unusedVariables false
set_option linter.unusedSimpArgs false
set_option maxRecDepth 100000
namespace Go.Proofs.Ytokpnjbfbkphiaa
open Go.Sx
theorem sz5l : (Try.prog.info? 5).map (·.size) = some 1 := by kernel_rfl
theorem sz23l : (Try.prog.info? 23).map (·.size) = some 32 := by kernel_rfl
theorem tx11l : Txt Try.prog 11 := txt_of Try.func11 rfl (by kernel_rfl)
theorem tx12l : Txt Try.prog 12 := txt_of Try.func12 rfl (by kernel_rfl)
theorem tx14l : Txt Try.prog 14 := txt_of Try.func14 rfl (by kernel_rfl)
theorem tx17l : Txt Try.prog 17 := txt_of Try.func17 rfl (by kernel_rfl)
theorem z23l : (Try.prog.info? 23).bind (·.zero) = some (.agg (dg zd).toArray) := by kernel_rfl

theorem PathPrefixes_out (a b : List Int) (n : Int) (w : World) (ha : a.length = 32) (hb : b.length = 32) (hA : Byt a) (hB : Byt b) (hn : ¬ (0 ≤ n ∧ n ≤ 256)) :
    Calls Try.prog 6 #[.agg (dg a).toArray, .agg (dg b).toArray, .int .i64 n] w fun e w' => e = .returned (.bool true) ∧ Fr [] w w' := by
  have hE := preE_out n hn
  refine calls_of (args := [.agg (dg a).toArray, .agg (dg b).toArray, .int .i64 n]) ([]) ([]) ([]) Try.func6 rfl rfl (okW0 _ _ _ _) ?_
  refine J_seq ?_
  refine J_region ?_
  refine L_box rfl rfl rfl rfl rfl (fun b0 => ?_)
  refine L_box rfl rfl rfl rfl rfl (fun b1 => ?_)
  refine L_v rfl rfl rfl (V_assign rfl rfl) ?_
  refine L_nil ?_
  change J _ _ _ _
  refine J_seq ?_
  refine J_region ?_
  refine L_v rfl rfl rfl (V_loadW 0 rfl rfl rfl Try.underlying23 rfl (szd sz23l (by simp [dg_length, setBit_length, mix_length, zd_length, pre, withV_length, preV_length, *]))) ?_
  refine L_v rfl rfl rfl (V_move rfl rfl) ?_
  refine L_callV rfl rfl rfl rfl rfl rfl tx12l (fun w _ => prefix_w _ _ w (by first | assumption | exact withV_length (by assumption) _ _ | exact preV_length _ _) (by first | assumption | exact byt128 | exact byt129 | exact withV_byt (by assumption) _ _ | exact preV_byt (by assumption) _)) ?_
  refine L_v rfl rfl rfl (V_move rfl rfl) ?_
  refine L_v rfl rfl rfl (V_extract rfl rfl rfl) ?_
  refine L_v rfl rfl rfl (V_extract rfl rfl rfl) ?_
  refine L_alloc rfl rfl rfl rfl z23l (fun b2 => ?_)
  refine L_storeW 2 rfl rfl rfl rfl rfl rfl (szd sz23l (by simp [dg_length, setBit_length, mix_length, zd_length, pre, withV_length, preV_length, *])) (dg_one _) (by simp [dg_length, setBit_length, mix_length, zd_length, pre, withV_length, preV_length, *]) ?_
  refine L_v rfl rfl rfl (V_assign rfl rfl) ?_
  refine L_nil ?_
  change J _ _ _ _
  refine J_seq ?_
  refine J_region ?_
  refine L_v rfl rfl rfl (V_loadW 1 rfl rfl rfl Try.underlying23 rfl (szd sz23l (by simp [dg_length, setBit_length, mix_length, zd_length, pre, withV_length, preV_length, *]))) ?_
  refine L_v rfl rfl rfl (V_move rfl rfl) ?_
  refine L_callV rfl rfl rfl rfl rfl rfl tx12l (fun w _ => prefix_w _ _ w (by first | assumption | exact withV_length (by assumption) _ _ | exact preV_length _ _) (by first | assumption | exact byt128 | exact byt129 | exact withV_byt (by assumption) _ _ | exact preV_byt (by assumption) _)) ?_
  refine L_v rfl rfl rfl (V_move rfl rfl) ?_
  refine L_v rfl rfl rfl (V_extract rfl rfl rfl) ?_
  refine L_v rfl rfl rfl (V_extract rfl rfl rfl) ?_
  refine L_alloc rfl rfl rfl rfl z23l (fun b3 => ?_)
  refine L_storeW 3 rfl rfl rfl rfl rfl rfl (szd sz23l (by simp [dg_length, setBit_length, mix_length, zd_length, pre, withV_length, preV_length, *])) (dg_one _) (by simp [dg_length, setBit_length, mix_length, zd_length, pre, withV_length, preV_length, *]) ?_
  refine L_v rfl rfl rfl (V_assign rfl rfl) ?_
  refine L_nil ?_
  change J _ _ _ _
  refine J_seq ?_
  refine J_seq ?_
  refine J_region ?_
  refine L_v rfl rfl rfl (V_move rfl rfl) ?_
  refine L_v rfl rfl rfl (V_neq rfl rfl rfl (by first | exact decide_eq_true (by omega) | exact decide_eq_false (by omega) | rfl)) ?_
  refine L_v rfl rfl rfl (V_move rfl rfl) ?_
  refine L_skip rfl rfl rfl rfl rfl rfl rfl ?_
  refine L_skip rfl rfl rfl rfl rfl rfl rfl ?_
  first | refine L_v rfl rfl rfl (V_pickT rfl rfl rfl) ?_ | refine L_v rfl rfl rfl (V_pickF rfl rfl rfl) ?_
  refine L_nil ?_
  change J _ _ _ _
  refine J_true rfl ?_
  refine J_seq ?_
  refine J_region ?_
  refine L_callV rfl rfl rfl rfl rfl rfl tx11l (fun w _ => bits_w w) ?_
  refine L_v rfl rfl rfl (V_move rfl rfl) ?_
  refine L_wcallV rfl rfl rfl rfl rfl rfl rfl rfl rfl tx14l (fun w _ => commons_w w) ?_
  first | refine L_v rfl rfl rfl (V_pickT rfl rfl rfl) ?_ | refine L_v rfl rfl rfl (V_pickF rfl rfl rfl) ?_
  refine L_v rfl rfl rfl (V_move rfl rfl) ?_
  refine L_wv rfl rfl rfl rfl rfl rfl (V_move rfl rfl) ?_
  refine L_wv rfl rfl rfl rfl rfl rfl (V_eql rfl rfl rfl (by first | exact decide_eq_true (by omega) | exact decide_eq_false (by omega) | rfl)) ?_
  first | refine L_v rfl rfl rfl (V_pickT rfl rfl rfl) ?_ | refine L_v rfl rfl rfl (V_pickF rfl rfl rfl) ?_
  refine L_v rfl rfl rfl (V_move rfl rfl) ?_
  refine L_wv rfl rfl rfl rfl rfl rfl (V_move rfl rfl) ?_
  refine L_wv rfl rfl rfl rfl rfl rfl (V_move rfl rfl) ?_
  refine L_wv rfl rfl rfl rfl rfl rfl (V_eql rfl rfl rfl (by first | exact decide_eq_true (by omega) | exact decide_eq_false (by omega) | rfl)) ?_
  first | refine L_v rfl rfl rfl (V_pickT rfl rfl rfl) ?_ | refine L_v rfl rfl rfl (V_pickF rfl rfl rfl) ?_
  refine L_v rfl rfl rfl (V_move rfl rfl) ?_
  refine L_wv rfl rfl rfl rfl rfl rfl (V_move rfl rfl) ?_
  refine L_wv rfl rfl rfl rfl rfl rfl (V_lss rfl rfl rfl (by first | exact decide_eq_true (by omega) | exact decide_eq_false (by omega) | rfl)) ?_
  refine L_wv rfl rfl rfl rfl rfl rfl (V_move rfl rfl) ?_
  refine L_split 45 rfl (fun h1 => ?_) (fun h1 => ?_)
  ·
    first | (have h1 := of_decide_eq_true h1) | (have h1 := of_decide_eq_false h1) | skip
    refine L_skip rfl rfl rfl rfl rfl rfl rfl ?_
    refine L_skip rfl rfl rfl rfl rfl rfl rfl ?_
    first | refine L_wv rfl rfl rfl rfl rfl rfl (V_pickT rfl rfl rfl) ?_ | refine L_wv rfl rfl rfl rfl rfl rfl (V_pickF rfl rfl rfl) ?_
    first | refine L_v rfl rfl rfl (V_pickT rfl rfl rfl) ?_ | refine L_v rfl rfl rfl (V_pickF rfl rfl rfl) ?_
    refine L_v rfl rfl rfl (V_assign rfl rfl) ?_
    refine L_nil ?_
    change J _ _ _ _
    refine J_ret ?_
    change Kret _ _ _ Exit.ret _
    refine ret1 rfl rfl (RV_t rfl) ?_
    exact fun w' h => ⟨rfl, h.fr⟩
  ·
    first | (have h1 := of_decide_eq_true h1) | (have h1 := of_decide_eq_false h1) | skip
    refine L_wv rfl rfl rfl rfl rfl rfl (V_move rfl rfl) ?_
    refine L_wv rfl rfl rfl rfl rfl rfl (V_gtr rfl rfl rfl (by first | exact decide_eq_true (by omega) | exact decide_eq_false (by omega) | rfl)) ?_
    first | refine L_wv rfl rfl rfl rfl rfl rfl (V_pickT rfl rfl rfl) ?_ | refine L_wv rfl rfl rfl rfl rfl rfl (V_pickF rfl rfl rfl) ?_
    first | refine L_v rfl rfl rfl (V_pickT rfl rfl rfl) ?_ | refine L_v rfl rfl rfl (V_pickF rfl rfl rfl) ?_
    refine L_v rfl rfl rfl (V_assign rfl rfl) ?_
    refine L_nil ?_
    change J _ _ _ _
    refine J_ret ?_
    change Kret _ _ _ Exit.ret _
    refine ret1 rfl rfl (RV_t rfl) ?_
    exact fun w' h => ⟨rfl, h.fr⟩

theorem PathPrefixes_in (a b : List Int) (n : Int) (w : World) (ha : a.length = 32) (hb : b.length = 32) (hA : Byt a) (hB : Byt b) (h0 : 0 ≤ n) (h1 : n ≤ 256) :
    Calls Try.prog 6 #[.agg (dg a).toArray, .agg (dg b).toArray, .int .i64 n] w fun e w' => e = .returned (.bool true) ∧ Fr [] w w' := by
  have hE := preE_in n h0 h1
  have hpq := pre_eq_bool hA hB h0 h1
  have hcp := com_pre hA h0 h1
  refine calls_of (args := [.agg (dg a).toArray, .agg (dg b).toArray, .int .i64 n]) ([]) ([]) ([]) Try.func6 rfl rfl (okW0 _ _ _ _) ?_
  refine J_seq ?_
  refine J_region ?_
  refine L_box rfl rfl rfl rfl rfl (fun b0 => ?_)
  refine L_box rfl rfl rfl rfl rfl (fun b1 => ?_)
  refine L_v rfl rfl rfl (V_assign rfl rfl) ?_
  refine L_nil ?_
  change J _ _ _ _
  refine J_seq ?_
  refine J_region ?_
  refine L_v rfl rfl rfl (V_loadW 0 rfl rfl rfl Try.underlying23 rfl (szd sz23l (by simp [dg_length, setBit_length, mix_length, zd_length, pre, withV_length, preV_length, *]))) ?_
  refine L_v rfl rfl rfl (V_move rfl rfl) ?_
  refine L_callV rfl rfl rfl rfl rfl rfl tx12l (fun w _ => prefix_w _ _ w (by first | assumption | exact withV_length (by assumption) _ _ | exact preV_length _ _) (by first | assumption | exact byt128 | exact byt129 | exact withV_byt (by assumption) _ _ | exact preV_byt (by assumption) _)) ?_
  refine L_v rfl rfl rfl (V_move rfl rfl) ?_
  refine L_v rfl rfl rfl (V_extract rfl rfl rfl) ?_
  refine L_v rfl rfl rfl (V_extract rfl rfl rfl) ?_
  refine L_alloc rfl rfl rfl rfl z23l (fun b2 => ?_)
  refine L_storeW 2 rfl rfl rfl rfl rfl rfl (szd sz23l (by simp [dg_length, setBit_length, mix_length, zd_length, pre, withV_length, preV_length, *])) (dg_one _) (by simp [dg_length, setBit_length, mix_length, zd_length, pre, withV_length, preV_length, *]) ?_
  refine L_v rfl rfl rfl (V_assign rfl rfl) ?_
  refine L_nil ?_
  change J _ _ _ _
  refine J_seq ?_
  refine J_region ?_
  refine L_v rfl rfl rfl (V_loadW 1 rfl rfl rfl Try.underlying23 rfl (szd sz23l (by simp [dg_length, setBit_length, mix_length, zd_length, pre, withV_length, preV_length, *]))) ?_
  refine L_v rfl rfl rfl (V_move rfl rfl) ?_
  refine L_callV rfl rfl rfl rfl rfl rfl tx12l (fun w _ => prefix_w _ _ w (by first | assumption | exact withV_length (by assumption) _ _ | exact preV_length _ _) (by first | assumption | exact byt128 | exact byt129 | exact withV_byt (by assumption) _ _ | exact preV_byt (by assumption) _)) ?_
  refine L_v rfl rfl rfl (V_move rfl rfl) ?_
  refine L_v rfl rfl rfl (V_extract rfl rfl rfl) ?_
  refine L_v rfl rfl rfl (V_extract rfl rfl rfl) ?_
  refine L_alloc rfl rfl rfl rfl z23l (fun b3 => ?_)
  refine L_storeW 3 rfl rfl rfl rfl rfl rfl (szd sz23l (by simp [dg_length, setBit_length, mix_length, zd_length, pre, withV_length, preV_length, *])) (dg_one _) (by simp [dg_length, setBit_length, mix_length, zd_length, pre, withV_length, preV_length, *]) ?_
  refine L_v rfl rfl rfl (V_assign rfl rfl) ?_
  refine L_nil ?_
  change J _ _ _ _
  refine J_seq ?_
  refine J_seq ?_
  refine J_region ?_
  refine L_v rfl rfl rfl (V_move rfl rfl) ?_
  refine L_v rfl rfl rfl (V_neq rfl rfl rfl (by first | exact decide_eq_true (by omega) | exact decide_eq_false (by omega) | rfl)) ?_
  refine L_v rfl rfl rfl (V_move rfl rfl) ?_
  refine L_wv rfl rfl rfl rfl rfl rfl (V_move rfl rfl) ?_
  refine L_wv rfl rfl rfl rfl rfl rfl (V_neq rfl rfl rfl (by first | exact decide_eq_true (by omega) | exact decide_eq_false (by omega) | rfl)) ?_
  first | refine L_v rfl rfl rfl (V_pickT rfl rfl rfl) ?_ | refine L_v rfl rfl rfl (V_pickF rfl rfl rfl) ?_
  refine L_nil ?_
  change J _ _ _ _
  refine J_false rfl ?_
  refine J_skip ?_
  change J _ _ _ _
  refine J_seq ?_
  refine J_regionQ rfl (by kernel_rfl) ?_
  refine LQ_callV rfl rfl rfl rfl rfl rfl tx11l (fun w _ => bits_w w) ?_
  refine LQ_v rfl rfl rfl (V_move rfl rfl) ?_
  refine LQ_wcallV rfl rfl rfl rfl rfl rfl rfl rfl rfl tx14l (fun w _ => commons_w w) ?_
  first | refine LQ_v rfl rfl rfl (V_pickT rfl rfl rfl) ?_ | refine LQ_v rfl rfl rfl (V_pickF rfl rfl rfl) ?_
  refine LQ_v rfl rfl rfl (V_move rfl rfl) ?_
  refine LQ_wv rfl rfl rfl rfl rfl rfl (V_loadW 2 rfl rfl rfl Try.underlying23 rfl (szd sz23l (by simp [dg_length, setBit_length, mix_length, zd_length, pre, withV_length, preV_length, *]))) ?_
  refine LQ_wv rfl rfl rfl rfl rfl rfl (V_loadW 3 rfl rfl rfl Try.underlying23 rfl (szd sz23l (by simp [dg_length, setBit_length, mix_length, zd_length, pre, withV_length, preV_length, *]))) ?_
  refine LQ_wv rfl rfl rfl rfl rfl rfl (V_eqD rfl rfl rfl eg23 Try.underlying23 Try.underlying5 sz5l (by simp [dg_length, setBit_length, mix_length, zd_length, pre, withV_length, preV_length, *]) (by simp [dg_length, setBit_length, mix_length, zd_length, pre, withV_length, preV_length, *]) rfl) ?_
  refine LQ_wv rfl rfl rfl rfl rfl rfl (V_move rfl rfl) ?_
  refine LQ_wv rfl rfl rfl rfl rfl rfl (V_loadW 0 rfl rfl rfl Try.underlying23 rfl (szd sz23l (by simp [dg_length, setBit_length, mix_length, zd_length, pre, withV_length, preV_length, *]))) ?_
  refine LQ_wv rfl rfl rfl rfl rfl rfl (V_loadW 1 rfl rfl rfl Try.underlying23 rfl (szd sz23l (by simp [dg_length, setBit_length, mix_length, zd_length, pre, withV_length, preV_length, *]))) ?_
  refine LQ_wcallV rfl rfl rfl rfl rfl rfl rfl rfl rfl tx17l (fun w _ => common_w _ _ w (by first | assumption | exact withV_length (by assumption) _ _ | exact preV_length _ _) (by first | assumption | exact withV_length (by assumption) _ _ | exact preV_length _ _) (by first | assumption | exact byt128 | exact byt129 | exact withV_byt (by assumption) _ _ | exact preV_byt (by assumption) _) (by first | assumption | exact byt128 | exact byt129 | exact withV_byt (by assumption) _ _ | exact preV_byt (by assumption) _)) ?_
  refine LQ_wv rfl rfl rfl rfl rfl rfl (V_leq rfl rfl rfl (by first | exact decide_eq_true (by omega) | exact decide_eq_false (by omega) | rfl)) ?_
  refine LQ_wv rfl rfl rfl rfl rfl rfl (V_eqB rfl rfl rfl Try.underlying4 hpq) ?_
  first | refine LQ_v rfl rfl rfl (V_pickT rfl rfl rfl) ?_ | refine LQ_v rfl rfl rfl (V_pickF rfl rfl rfl) ?_
  refine LQ_v rfl rfl rfl (V_move rfl rfl) ?_
  refine LQ_wv rfl rfl rfl rfl rfl rfl (V_loadW 0 rfl rfl rfl Try.underlying23 rfl (szd sz23l (by simp [dg_length, setBit_length, mix_length, zd_length, pre, withV_length, preV_length, *]))) ?_
  refine LQ_wv rfl rfl rfl rfl rfl rfl (V_loadW 2 rfl rfl rfl Try.underlying23 rfl (szd sz23l (by simp [dg_length, setBit_length, mix_length, zd_length, pre, withV_length, preV_length, *]))) ?_
  refine LQ_wcallV rfl rfl rfl rfl rfl rfl rfl rfl rfl tx17l (fun w _ => common_w _ _ w (by first | assumption | exact withV_length (by assumption) _ _ | exact preV_length _ _) (by first | assumption | exact withV_length (by assumption) _ _ | exact preV_length _ _) (by first | assumption | exact byt128 | exact byt129 | exact withV_byt (by assumption) _ _ | exact preV_byt (by assumption) _) (by first | assumption | exact byt128 | exact byt129 | exact withV_byt (by assumption) _ _ | exact preV_byt (by assumption) _)) ?_
  refine LQ_wv rfl rfl rfl rfl rfl rfl (V_move rfl rfl) ?_
  refine LQ_wv rfl rfl rfl rfl rfl rfl (V_geq rfl rfl rfl (by first | exact decide_eq_true (by omega) | exact decide_eq_false (by omega) | rfl)) ?_
  first | refine LQ_v rfl rfl rfl (V_pickT rfl rfl rfl) ?_ | refine LQ_v rfl rfl rfl (V_pickF rfl rfl rfl) ?_
  refine LQ_v rfl rfl rfl (V_assign rfl rfl) ?_
  refine LQ_nil ?_
  change J _ _ _ _
  refine J_ret ?_
  change Kret _ _ _ Exit.ret _
  refine ret1 rfl rfl (RV_t rfl) ?_
  exact fun w' h => ⟨rfl, h.fr⟩

theorem PathPrefixes_w (a b : List Int) (n : Int) (w : World) (ha : a.length = 32) (hb : b.length = 32) (hA : Byt a) (hB : Byt b) :
    Calls Try.prog 6 #[.agg (dg a).toArray, .agg (dg b).toArray, .int .i64 n] w fun e w' => e = .returned (.bool true) ∧ Fr [] w w' := by
  by_cases h : 0 ≤ n ∧ n ≤ 256
  · exact PathPrefixes_in a b n w ha hb hA hB h.1 h.2
  · exact PathPrefixes_out a b n w ha hb hA hB h

end Go.Proofs.Ytokpnjbfbkphiaa
