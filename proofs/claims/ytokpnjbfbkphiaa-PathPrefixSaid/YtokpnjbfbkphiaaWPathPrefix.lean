/- What the law comes to. -/
import Derived.Test.YtokpnjbfbkphiaaPath
set_option linter.unusedVariables false
set_option linter.unusedSimpArgs false
set_option maxRecDepth 100000
namespace Go.Proofs.Ytokpnjbfbkphiaa
open Go.Sx
theorem sz5l : (Try.prog.info? 5).map (·.size) = some 1 := by kernel_rfl
theorem sz23l : (Try.prog.info? 23).map (·.size) = some 32 := by kernel_rfl
theorem tx12l : Txt Try.prog 12 := txt_of Try.func12 rfl (by kernel_rfl)
theorem tx13l : Txt Try.prog 13 := txt_of Try.func13 rfl (by kernel_rfl)
theorem tx14l : Txt Try.prog 14 := txt_of Try.func14 rfl (by kernel_rfl)
theorem z23l : (Try.prog.info? 23).bind (·.zero) = some (.agg (dg zd).toArray) := by kernel_rfl

theorem PathPrefix_w (d : List Int) (i : Int) (w : World) (hl : d.length = 32) (hb : Byt d) :
    Calls Try.prog 4 #[.agg (dg d).toArray, .int .i64 i] w fun e w' => e = .returned (.bool true) ∧ Fr [] w w' := by
  refine calls_of (args := [.agg (dg d).toArray, .int .i64 i]) ([]) ([]) ([]) Try.func4 rfl rfl (okW0 _ _ _ _) ?_
  refine J_seq ?_
  refine J_region ?_
  refine L_box rfl rfl rfl rfl rfl (fun b0 => ?_)
  refine L_v rfl rfl rfl (V_assign rfl rfl) ?_
  refine L_nil ?_
  change J _ _ _ _
  refine J_seq ?_
  refine J_region ?_
  refine L_v rfl rfl rfl (V_loadW 0 rfl rfl rfl Try.underlying23 rfl (szd sz23l (by simp [dg_length, setBit_length, mix_length, zd_length, pre, withV_length, preV_length, *]))) ?_
  refine L_v rfl rfl rfl (V_move rfl rfl) ?_
  refine L_callV rfl rfl rfl rfl rfl rfl tx12l (fun w _ => prefix_w _ _ w (by first | assumption | (simp [setBit_length, mix_length, zd_length, withV_length, preV_length, *]; done) | rfl) (by first | assumption | exact byt128 | exact byt129 | exact withV_byt (by assumption) _ _ | exact preV_byt (by assumption) _)) ?_
  refine L_v rfl rfl rfl (V_move rfl rfl) ?_
  refine L_v rfl rfl rfl (V_extract rfl rfl rfl) ?_
  refine L_v rfl rfl rfl (V_extract rfl rfl rfl) ?_
  refine L_alloc rfl rfl rfl rfl z23l (fun b1 => ?_)
  refine L_storeW 1 rfl rfl rfl rfl rfl rfl (szd sz23l (by simp [dg_length, setBit_length, mix_length, zd_length, pre, withV_length, preV_length, *])) (dg_one _) (by simp [dg_length, setBit_length, mix_length, zd_length, pre, withV_length, preV_length, *]) ?_
  refine L_v rfl rfl rfl (V_assign rfl rfl) ?_
  refine L_nil ?_
  change J _ _ _ _
  refine J_seq ?_
  refine J_region ?_
  refine L_v rfl rfl rfl (V_loadW 0 rfl rfl rfl Try.underlying23 rfl (szd sz23l (by simp [dg_length, setBit_length, mix_length, zd_length, pre, withV_length, preV_length, *]))) ?_
  refine L_v rfl rfl rfl (V_move rfl rfl) ?_
  refine L_callV rfl rfl rfl rfl rfl rfl tx13l (fun w _ => rprefix_w _ _ w (by first | assumption | (simp [setBit_length, mix_length, zd_length, withV_length, preV_length, *]; done) | rfl) (by first | assumption | exact byt128 | exact byt129 | exact withV_byt (by assumption) _ _ | exact preV_byt (by assumption) _)) ?_
  refine L_v rfl rfl rfl (V_move rfl rfl) ?_
  refine L_v rfl rfl rfl (V_extract rfl rfl rfl) ?_
  refine L_v rfl rfl rfl (V_extract rfl rfl rfl) ?_
  refine L_alloc rfl rfl rfl rfl z23l (fun b2 => ?_)
  refine L_storeW 2 rfl rfl rfl rfl rfl rfl (szd sz23l (by simp [dg_length, setBit_length, mix_length, zd_length, pre, withV_length, preV_length, *])) (dg_one _) (by simp [dg_length, setBit_length, mix_length, zd_length, pre, withV_length, preV_length, *]) ?_
  refine L_v rfl rfl rfl (V_assign rfl rfl) ?_
  refine L_nil ?_
  change J _ _ _ _
  refine J_seq ?_
  refine J_region ?_
  refine L_callV rfl rfl rfl rfl rfl rfl tx14l (fun w _ => commons_w w) ?_
  refine L_v rfl rfl rfl (V_move rfl rfl) ?_
  refine L_wv rfl rfl rfl rfl rfl rfl (V_loadW 1 rfl rfl rfl Try.underlying23 rfl (szd sz23l (by simp [dg_length, setBit_length, mix_length, zd_length, pre, withV_length, preV_length, *]))) ?_
  refine L_wv rfl rfl rfl rfl rfl rfl (V_loadW 2 rfl rfl rfl Try.underlying23 rfl (szd sz23l (by simp [dg_length, setBit_length, mix_length, zd_length, pre, withV_length, preV_length, *]))) ?_
  refine L_wv rfl rfl rfl rfl rfl rfl (V_eqD rfl rfl rfl eg23 Try.underlying23 Try.underlying5 sz5l (by simp [dg_length, setBit_length, mix_length, zd_length, pre, withV_length, preV_length, *]) (by simp [dg_length, setBit_length, mix_length, zd_length, pre, withV_length, preV_length, *]) (decide_eq_true rfl)) ?_
  first | refine L_v rfl rfl rfl (V_pickT rfl rfl rfl) ?_ | refine L_v rfl rfl rfl (V_pickF rfl rfl rfl) ?_
  refine L_v rfl rfl rfl (V_move rfl rfl) ?_
  refine L_wv rfl rfl rfl rfl rfl rfl (V_move rfl rfl) ?_
  refine L_wv rfl rfl rfl rfl rfl rfl (V_move rfl rfl) ?_
  refine L_wv rfl rfl rfl rfl rfl rfl (V_eql rfl rfl rfl (by first | exact decide_eq_true (by omega) | exact decide_eq_false (by omega) | rfl)) ?_
  first | refine L_v rfl rfl rfl (V_pickT rfl rfl rfl) ?_ | refine L_v rfl rfl rfl (V_pickF rfl rfl rfl) ?_
  refine L_v rfl rfl rfl (V_assign rfl rfl) ?_
  refine L_nil ?_
  change J _ _ _ _
  refine J_ret ?_
  change Kret _ _ _ Exit.ret _
  refine ret1 rfl rfl (RV_t rfl) ?_
  exact fun w' h => ⟨rfl, h.fr⟩

end Go.Proofs.Ytokpnjbfbkphiaa
