/- What the law comes to. -/
import Derived.Test.YtokpnjbfbkphiaaPath
set_option linter.unusedVariables false
set_option linter.unusedSimpArgs false
set_option maxRecDepth 100000
namespace Go.Proofs.Ytokpnjbfbkphiaa
open Go.Sx
theorem sz5l : (Try.prog.info? 5).map (·.size) = some 1 := by kernel_rfl
theorem sz23l : (Try.prog.info? 23).map (·.size) = some 32 := by kernel_rfl
theorem tx11l : Txt Try.prog 11 := txt_of Try.func11 rfl (by kernel_rfl)
theorem tx14l : Txt Try.prog 14 := txt_of Try.func14 rfl (by kernel_rfl)
theorem tx19l : Txt Try.prog 19 := txt_of Try.func19 rfl (by kernel_rfl)

theorem PathOrder_a (a b c : List Int) (w : World) (ha : a.length = 32) (hb : b.length = 32) (hc : c.length = 32) (hA : Byt a) (hB : Byt b) (hC : Byt c) (haa : lessB a a = false) (hab : lessB a b = false) (he : decide (a = b) = true) (he2 : decide (a ≠ b) = false) :
    Calls Try.prog 7 #[.agg (dg a).toArray, .agg (dg b).toArray, .agg (dg c).toArray] w fun e w' => e = .returned (.bool true) ∧ Fr [] w w' := by
  refine calls_of (args := [.agg (dg a).toArray, .agg (dg b).toArray, .agg (dg c).toArray]) ([]) ([]) ([]) Try.func7 rfl rfl (okW0 _ _ _ _) ?_
  refine J_seq ?_
  refine J_region ?_
  refine L_box rfl rfl rfl rfl rfl (fun b0 => ?_)
  refine L_box rfl rfl rfl rfl rfl (fun b1 => ?_)
  refine L_box rfl rfl rfl rfl rfl (fun b2 => ?_)
  refine L_v rfl rfl rfl (V_assign rfl rfl) ?_
  refine L_nil ?_
  change J _ _ _ _
  refine J_seq ?_
  refine J_regionQ rfl (by kernel_rfl) ?_
  refine LQ_v rfl rfl rfl (V_loadW 0 rfl rfl rfl Try.underlying23 rfl (szd sz23l (by simp [dg_length, setBit_length, mix_length, zd_length, pre, withV_length, preV_length, *]))) ?_
  refine LQ_v rfl rfl rfl (V_loadW 0 rfl rfl rfl Try.underlying23 rfl (szd sz23l (by simp [dg_length, setBit_length, mix_length, zd_length, pre, withV_length, preV_length, *]))) ?_
  refine LQ_callV rfl rfl rfl rfl rfl rfl tx19l (fun w _ => less_v _ _ w (by first | assumption | exact withV_length (by assumption) _ _ | exact preV_length _ _) (by first | assumption | exact withV_length (by assumption) _ _ | exact preV_length _ _) (by first | assumption | exact byt128 | exact byt129 | exact withV_byt (by assumption) _ _ | exact preV_byt (by assumption) _) (by first | assumption | exact byt128 | exact byt129 | exact withV_byt (by assumption) _ _ | exact preV_byt (by assumption) _) haa) ?_
  refine LQ_v rfl rfl rfl (V_not rfl rfl rfl) ?_
  refine LQ_v rfl rfl rfl (V_move rfl rfl) ?_
  refine LQ_wv rfl rfl rfl rfl rfl rfl (V_loadW 0 rfl rfl rfl Try.underlying23 rfl (szd sz23l (by simp [dg_length, setBit_length, mix_length, zd_length, pre, withV_length, preV_length, *]))) ?_
  refine LQ_wv rfl rfl rfl rfl rfl rfl (V_loadW 1 rfl rfl rfl Try.underlying23 rfl (szd sz23l (by simp [dg_length, setBit_length, mix_length, zd_length, pre, withV_length, preV_length, *]))) ?_
  refine LQ_wv rfl rfl rfl rfl rfl rfl (V_eqD rfl rfl rfl eg23 Try.underlying23 Try.underlying5 sz5l (by simp [dg_length, setBit_length, mix_length, zd_length, pre, withV_length, preV_length, *]) (by simp [dg_length, setBit_length, mix_length, zd_length, pre, withV_length, preV_length, *]) he) ?_
  refine LQ_wv rfl rfl rfl rfl rfl rfl (V_move rfl rfl) ?_
  refine LQ_skip rfl rfl rfl rfl rfl rfl rfl ?_
  refine LQ_skip rfl rfl rfl rfl rfl rfl rfl ?_
  refine LQ_skip rfl rfl rfl rfl rfl rfl rfl ?_
  refine LQ_skip rfl rfl rfl rfl rfl rfl rfl ?_
  refine LQ_skip rfl rfl rfl rfl rfl rfl rfl ?_
  refine LQ_skip rfl rfl rfl rfl rfl rfl rfl ?_
  refine LQ_skip rfl rfl rfl rfl rfl rfl rfl ?_
  first | refine LQ_wv rfl rfl rfl rfl rfl rfl (V_pickT rfl rfl rfl) ?_ | refine LQ_wv rfl rfl rfl rfl rfl rfl (V_pickF rfl rfl rfl) ?_
  first | refine LQ_v rfl rfl rfl (V_pickT rfl rfl rfl) ?_ | refine LQ_v rfl rfl rfl (V_pickF rfl rfl rfl) ?_
  refine LQ_v rfl rfl rfl (V_move rfl rfl) ?_
  refine LQ_wv rfl rfl rfl rfl rfl rfl (V_loadW 0 rfl rfl rfl Try.underlying23 rfl (szd sz23l (by simp [dg_length, setBit_length, mix_length, zd_length, pre, withV_length, preV_length, *]))) ?_
  refine LQ_wv rfl rfl rfl rfl rfl rfl (V_loadW 1 rfl rfl rfl Try.underlying23 rfl (szd sz23l (by simp [dg_length, setBit_length, mix_length, zd_length, pre, withV_length, preV_length, *]))) ?_
  refine LQ_wv rfl rfl rfl rfl rfl rfl (V_neD rfl rfl rfl eg23 Try.underlying23 Try.underlying5 sz5l (by simp [dg_length, setBit_length, mix_length, zd_length, pre, withV_length, preV_length, *]) (by simp [dg_length, setBit_length, mix_length, zd_length, pre, withV_length, preV_length, *]) he2) ?_
  refine LQ_wv rfl rfl rfl rfl rfl rfl (V_move rfl rfl) ?_
  refine LQ_wv rfl rfl rfl rfl rfl rfl (V_loadW 0 rfl rfl rfl Try.underlying23 rfl (szd sz23l (by simp [dg_length, setBit_length, mix_length, zd_length, pre, withV_length, preV_length, *]))) ?_
  refine LQ_wv rfl rfl rfl rfl rfl rfl (V_loadW 1 rfl rfl rfl Try.underlying23 rfl (szd sz23l (by simp [dg_length, setBit_length, mix_length, zd_length, pre, withV_length, preV_length, *]))) ?_
  refine LQ_wcallV rfl rfl rfl rfl rfl rfl rfl rfl rfl tx19l (fun w _ => less_v _ _ w (by first | assumption | exact withV_length (by assumption) _ _ | exact preV_length _ _) (by first | assumption | exact withV_length (by assumption) _ _ | exact preV_length _ _) (by first | assumption | exact byt128 | exact byt129 | exact withV_byt (by assumption) _ _ | exact preV_byt (by assumption) _) (by first | assumption | exact byt128 | exact byt129 | exact withV_byt (by assumption) _ _ | exact preV_byt (by assumption) _) hab) ?_
  refine LQ_wv rfl rfl rfl rfl rfl rfl (V_not rfl rfl rfl) ?_
  first | refine LQ_wv rfl rfl rfl rfl rfl rfl (V_pickT rfl rfl rfl) ?_ | refine LQ_wv rfl rfl rfl rfl rfl rfl (V_pickF rfl rfl rfl) ?_
  first | refine LQ_v rfl rfl rfl (V_pickT rfl rfl rfl) ?_ | refine LQ_v rfl rfl rfl (V_pickF rfl rfl rfl) ?_
  refine LQ_v rfl rfl rfl (V_assign rfl rfl) ?_
  refine LQ_nil ?_
  change J _ _ _ _
  refine J_seq ?_
  refine J_region ?_
  refine L_callV rfl rfl rfl rfl rfl rfl tx11l (fun w _ => bits_w w) ?_
  refine L_v rfl rfl rfl (V_move rfl rfl) ?_
  refine L_wcallV rfl rfl rfl rfl rfl rfl rfl rfl rfl tx14l (fun w _ => commons_w w) ?_
  first | refine L_v rfl rfl rfl (V_pickT rfl rfl rfl) ?_ | refine L_v rfl rfl rfl (V_pickF rfl rfl rfl) ?_
  refine L_v rfl rfl rfl (V_move rfl rfl) ?_
  refine L_wv rfl rfl rfl rfl rfl rfl (V_move rfl rfl) ?_
  first | refine L_v rfl rfl rfl (V_pickT rfl rfl rfl) ?_ | refine L_v rfl rfl rfl (V_pickF rfl rfl rfl) ?_
  refine L_v rfl rfl rfl (V_move rfl rfl) ?_
  refine L_wv rfl rfl rfl rfl rfl rfl (V_loadW 0 rfl rfl rfl Try.underlying23 rfl (szd sz23l (by simp [dg_length, setBit_length, mix_length, zd_length, pre, withV_length, preV_length, *]))) ?_
  refine L_wv rfl rfl rfl rfl rfl rfl (V_loadW 1 rfl rfl rfl Try.underlying23 rfl (szd sz23l (by simp [dg_length, setBit_length, mix_length, zd_length, pre, withV_length, preV_length, *]))) ?_
  refine L_wcallV rfl rfl rfl rfl rfl rfl rfl rfl rfl tx19l (fun w _ => less_v _ _ w (by first | assumption | exact withV_length (by assumption) _ _ | exact preV_length _ _) (by first | assumption | exact withV_length (by assumption) _ _ | exact preV_length _ _) (by first | assumption | exact byt128 | exact byt129 | exact withV_byt (by assumption) _ _ | exact preV_byt (by assumption) _) (by first | assumption | exact byt128 | exact byt129 | exact withV_byt (by assumption) _ _ | exact preV_byt (by assumption) _) hab) ?_
  refine L_wv rfl rfl rfl rfl rfl rfl (V_not rfl rfl rfl) ?_
  refine L_wv rfl rfl rfl rfl rfl rfl (V_move rfl rfl) ?_
  refine L_skip rfl rfl rfl rfl rfl rfl rfl ?_
  refine L_skip rfl rfl rfl rfl rfl rfl rfl ?_
  refine L_skip rfl rfl rfl rfl rfl rfl rfl ?_
  refine L_skip rfl rfl rfl rfl rfl rfl rfl ?_
  first | refine L_wv rfl rfl rfl rfl rfl rfl (V_pickT rfl rfl rfl) ?_ | refine L_wv rfl rfl rfl rfl rfl rfl (V_pickF rfl rfl rfl) ?_
  refine L_wv rfl rfl rfl rfl rfl rfl (V_move rfl rfl) ?_
  refine L_skip rfl rfl rfl rfl rfl rfl rfl ?_
  refine L_skip rfl rfl rfl rfl rfl rfl rfl ?_
  refine L_skip rfl rfl rfl rfl rfl rfl rfl ?_
  first | refine L_wv rfl rfl rfl rfl rfl rfl (V_pickT rfl rfl rfl) ?_ | refine L_wv rfl rfl rfl rfl rfl rfl (V_pickF rfl rfl rfl) ?_
  first | refine L_v rfl rfl rfl (V_pickT rfl rfl rfl) ?_ | refine L_v rfl rfl rfl (V_pickF rfl rfl rfl) ?_
  refine L_v rfl rfl rfl (V_assign rfl rfl) ?_
  refine L_nil ?_
  change J _ _ _ _
  refine J_ret ?_
  change Kret _ _ _ Exit.ret _
  refine ret1 rfl rfl (RV_t rfl) ?_
  exact fun w' h => ⟨rfl, h.fr⟩

theorem PathOrder_b (a b c : List Int) (w : World) (ha : a.length = 32) (hb : b.length = 32) (hc : c.length = 32) (hA : Byt a) (hB : Byt b) (hC : Byt c) (haa : lessB a a = false) (hab : lessB a b = true) (hba : lessB b a = false) (hbc : lessB b c = false) (he : decide (a = b) = false) (he2 : decide (a ≠ b) = true) :
    Calls Try.prog 7 #[.agg (dg a).toArray, .agg (dg b).toArray, .agg (dg c).toArray] w fun e w' => e = .returned (.bool true) ∧ Fr [] w w' := by
  refine calls_of (args := [.agg (dg a).toArray, .agg (dg b).toArray, .agg (dg c).toArray]) ([]) ([]) ([]) Try.func7 rfl rfl (okW0 _ _ _ _) ?_
  refine J_seq ?_
  refine J_region ?_
  refine L_box rfl rfl rfl rfl rfl (fun b0 => ?_)
  refine L_box rfl rfl rfl rfl rfl (fun b1 => ?_)
  refine L_box rfl rfl rfl rfl rfl (fun b2 => ?_)
  refine L_v rfl rfl rfl (V_assign rfl rfl) ?_
  refine L_nil ?_
  change J _ _ _ _
  refine J_seq ?_
  refine J_regionQ rfl (by kernel_rfl) ?_
  refine LQ_v rfl rfl rfl (V_loadW 0 rfl rfl rfl Try.underlying23 rfl (szd sz23l (by simp [dg_length, setBit_length, mix_length, zd_length, pre, withV_length, preV_length, *]))) ?_
  refine LQ_v rfl rfl rfl (V_loadW 0 rfl rfl rfl Try.underlying23 rfl (szd sz23l (by simp [dg_length, setBit_length, mix_length, zd_length, pre, withV_length, preV_length, *]))) ?_
  refine LQ_callV rfl rfl rfl rfl rfl rfl tx19l (fun w _ => less_v _ _ w (by first | assumption | exact withV_length (by assumption) _ _ | exact preV_length _ _) (by first | assumption | exact withV_length (by assumption) _ _ | exact preV_length _ _) (by first | assumption | exact byt128 | exact byt129 | exact withV_byt (by assumption) _ _ | exact preV_byt (by assumption) _) (by first | assumption | exact byt128 | exact byt129 | exact withV_byt (by assumption) _ _ | exact preV_byt (by assumption) _) haa) ?_
  refine LQ_v rfl rfl rfl (V_not rfl rfl rfl) ?_
  refine LQ_v rfl rfl rfl (V_move rfl rfl) ?_
  refine LQ_wv rfl rfl rfl rfl rfl rfl (V_loadW 0 rfl rfl rfl Try.underlying23 rfl (szd sz23l (by simp [dg_length, setBit_length, mix_length, zd_length, pre, withV_length, preV_length, *]))) ?_
  refine LQ_wv rfl rfl rfl rfl rfl rfl (V_loadW 1 rfl rfl rfl Try.underlying23 rfl (szd sz23l (by simp [dg_length, setBit_length, mix_length, zd_length, pre, withV_length, preV_length, *]))) ?_
  refine LQ_wv rfl rfl rfl rfl rfl rfl (V_eqD rfl rfl rfl eg23 Try.underlying23 Try.underlying5 sz5l (by simp [dg_length, setBit_length, mix_length, zd_length, pre, withV_length, preV_length, *]) (by simp [dg_length, setBit_length, mix_length, zd_length, pre, withV_length, preV_length, *]) he) ?_
  refine LQ_wv rfl rfl rfl rfl rfl rfl (V_move rfl rfl) ?_
  refine LQ_wv rfl rfl rfl rfl rfl rfl (V_loadW 0 rfl rfl rfl Try.underlying23 rfl (szd sz23l (by simp [dg_length, setBit_length, mix_length, zd_length, pre, withV_length, preV_length, *]))) ?_
  refine LQ_wv rfl rfl rfl rfl rfl rfl (V_loadW 1 rfl rfl rfl Try.underlying23 rfl (szd sz23l (by simp [dg_length, setBit_length, mix_length, zd_length, pre, withV_length, preV_length, *]))) ?_
  refine LQ_wcallV rfl rfl rfl rfl rfl rfl rfl rfl rfl tx19l (fun w _ => less_v _ _ w (by first | assumption | exact withV_length (by assumption) _ _ | exact preV_length _ _) (by first | assumption | exact withV_length (by assumption) _ _ | exact preV_length _ _) (by first | assumption | exact byt128 | exact byt129 | exact withV_byt (by assumption) _ _ | exact preV_byt (by assumption) _) (by first | assumption | exact byt128 | exact byt129 | exact withV_byt (by assumption) _ _ | exact preV_byt (by assumption) _) hab) ?_
  refine LQ_wv rfl rfl rfl rfl rfl rfl (V_loadW 1 rfl rfl rfl Try.underlying23 rfl (szd sz23l (by simp [dg_length, setBit_length, mix_length, zd_length, pre, withV_length, preV_length, *]))) ?_
  refine LQ_wv rfl rfl rfl rfl rfl rfl (V_loadW 0 rfl rfl rfl Try.underlying23 rfl (szd sz23l (by simp [dg_length, setBit_length, mix_length, zd_length, pre, withV_length, preV_length, *]))) ?_
  refine LQ_wcallV rfl rfl rfl rfl rfl rfl rfl rfl rfl tx19l (fun w _ => less_v _ _ w (by first | assumption | exact withV_length (by assumption) _ _ | exact preV_length _ _) (by first | assumption | exact withV_length (by assumption) _ _ | exact preV_length _ _) (by first | assumption | exact byt128 | exact byt129 | exact withV_byt (by assumption) _ _ | exact preV_byt (by assumption) _) (by first | assumption | exact byt128 | exact byt129 | exact withV_byt (by assumption) _ _ | exact preV_byt (by assumption) _) hba) ?_
  refine LQ_wv rfl rfl rfl rfl rfl rfl (V_neB rfl rfl rfl Try.underlying4 rfl) ?_
  first | refine LQ_wv rfl rfl rfl rfl rfl rfl (V_pickT rfl rfl rfl) ?_ | refine LQ_wv rfl rfl rfl rfl rfl rfl (V_pickF rfl rfl rfl) ?_
  first | refine LQ_v rfl rfl rfl (V_pickT rfl rfl rfl) ?_ | refine LQ_v rfl rfl rfl (V_pickF rfl rfl rfl) ?_
  refine LQ_v rfl rfl rfl (V_move rfl rfl) ?_
  refine LQ_wv rfl rfl rfl rfl rfl rfl (V_loadW 0 rfl rfl rfl Try.underlying23 rfl (szd sz23l (by simp [dg_length, setBit_length, mix_length, zd_length, pre, withV_length, preV_length, *]))) ?_
  refine LQ_wv rfl rfl rfl rfl rfl rfl (V_loadW 1 rfl rfl rfl Try.underlying23 rfl (szd sz23l (by simp [dg_length, setBit_length, mix_length, zd_length, pre, withV_length, preV_length, *]))) ?_
  refine LQ_wv rfl rfl rfl rfl rfl rfl (V_neD rfl rfl rfl eg23 Try.underlying23 Try.underlying5 sz5l (by simp [dg_length, setBit_length, mix_length, zd_length, pre, withV_length, preV_length, *]) (by simp [dg_length, setBit_length, mix_length, zd_length, pre, withV_length, preV_length, *]) he2) ?_
  refine LQ_wv rfl rfl rfl rfl rfl rfl (V_move rfl rfl) ?_
  refine LQ_skip rfl rfl rfl rfl rfl rfl rfl ?_
  refine LQ_skip rfl rfl rfl rfl rfl rfl rfl ?_
  refine LQ_skip rfl rfl rfl rfl rfl rfl rfl ?_
  refine LQ_skip rfl rfl rfl rfl rfl rfl rfl ?_
  first | refine LQ_wv rfl rfl rfl rfl rfl rfl (V_pickT rfl rfl rfl) ?_ | refine LQ_wv rfl rfl rfl rfl rfl rfl (V_pickF rfl rfl rfl) ?_
  first | refine LQ_v rfl rfl rfl (V_pickT rfl rfl rfl) ?_ | refine LQ_v rfl rfl rfl (V_pickF rfl rfl rfl) ?_
  refine LQ_v rfl rfl rfl (V_assign rfl rfl) ?_
  refine LQ_nil ?_
  change J _ _ _ _
  refine J_seq ?_
  refine J_region ?_
  refine L_callV rfl rfl rfl rfl rfl rfl tx11l (fun w _ => bits_w w) ?_
  refine L_v rfl rfl rfl (V_move rfl rfl) ?_
  refine L_wcallV rfl rfl rfl rfl rfl rfl rfl rfl rfl tx14l (fun w _ => commons_w w) ?_
  first | refine L_v rfl rfl rfl (V_pickT rfl rfl rfl) ?_ | refine L_v rfl rfl rfl (V_pickF rfl rfl rfl) ?_
  refine L_v rfl rfl rfl (V_move rfl rfl) ?_
  refine L_wv rfl rfl rfl rfl rfl rfl (V_move rfl rfl) ?_
  first | refine L_v rfl rfl rfl (V_pickT rfl rfl rfl) ?_ | refine L_v rfl rfl rfl (V_pickF rfl rfl rfl) ?_
  refine L_v rfl rfl rfl (V_move rfl rfl) ?_
  refine L_wv rfl rfl rfl rfl rfl rfl (V_loadW 0 rfl rfl rfl Try.underlying23 rfl (szd sz23l (by simp [dg_length, setBit_length, mix_length, zd_length, pre, withV_length, preV_length, *]))) ?_
  refine L_wv rfl rfl rfl rfl rfl rfl (V_loadW 1 rfl rfl rfl Try.underlying23 rfl (szd sz23l (by simp [dg_length, setBit_length, mix_length, zd_length, pre, withV_length, preV_length, *]))) ?_
  refine L_wcallV rfl rfl rfl rfl rfl rfl rfl rfl rfl tx19l (fun w _ => less_v _ _ w (by first | assumption | exact withV_length (by assumption) _ _ | exact preV_length _ _) (by first | assumption | exact withV_length (by assumption) _ _ | exact preV_length _ _) (by first | assumption | exact byt128 | exact byt129 | exact withV_byt (by assumption) _ _ | exact preV_byt (by assumption) _) (by first | assumption | exact byt128 | exact byt129 | exact withV_byt (by assumption) _ _ | exact preV_byt (by assumption) _) hab) ?_
  refine L_wv rfl rfl rfl rfl rfl rfl (V_not rfl rfl rfl) ?_
  refine L_wv rfl rfl rfl rfl rfl rfl (V_move rfl rfl) ?_
  refine L_wv rfl rfl rfl rfl rfl rfl (V_loadW 1 rfl rfl rfl Try.underlying23 rfl (szd sz23l (by simp [dg_length, setBit_length, mix_length, zd_length, pre, withV_length, preV_length, *]))) ?_
  refine L_wv rfl rfl rfl rfl rfl rfl (V_loadW 2 rfl rfl rfl Try.underlying23 rfl (szd sz23l (by simp [dg_length, setBit_length, mix_length, zd_length, pre, withV_length, preV_length, *]))) ?_
  refine L_wcallV rfl rfl rfl rfl rfl rfl rfl rfl rfl tx19l (fun w _ => less_v _ _ w (by first | assumption | exact withV_length (by assumption) _ _ | exact preV_length _ _) (by first | assumption | exact withV_length (by assumption) _ _ | exact preV_length _ _) (by first | assumption | exact byt128 | exact byt129 | exact withV_byt (by assumption) _ _ | exact preV_byt (by assumption) _) (by first | assumption | exact byt128 | exact byt129 | exact withV_byt (by assumption) _ _ | exact preV_byt (by assumption) _) hbc) ?_
  refine L_wv rfl rfl rfl rfl rfl rfl (V_not rfl rfl rfl) ?_
  first | refine L_wv rfl rfl rfl rfl rfl rfl (V_pickT rfl rfl rfl) ?_ | refine L_wv rfl rfl rfl rfl rfl rfl (V_pickF rfl rfl rfl) ?_
  refine L_wv rfl rfl rfl rfl rfl rfl (V_move rfl rfl) ?_
  refine L_skip rfl rfl rfl rfl rfl rfl rfl ?_
  refine L_skip rfl rfl rfl rfl rfl rfl rfl ?_
  refine L_skip rfl rfl rfl rfl rfl rfl rfl ?_
  first | refine L_wv rfl rfl rfl rfl rfl rfl (V_pickT rfl rfl rfl) ?_ | refine L_wv rfl rfl rfl rfl rfl rfl (V_pickF rfl rfl rfl) ?_
  first | refine L_v rfl rfl rfl (V_pickT rfl rfl rfl) ?_ | refine L_v rfl rfl rfl (V_pickF rfl rfl rfl) ?_
  refine L_v rfl rfl rfl (V_assign rfl rfl) ?_
  refine L_nil ?_
  change J _ _ _ _
  refine J_ret ?_
  change Kret _ _ _ Exit.ret _
  refine ret1 rfl rfl (RV_t rfl) ?_
  exact fun w' h => ⟨rfl, h.fr⟩

theorem PathOrder_c (a b c : List Int) (w : World) (ha : a.length = 32) (hb : b.length = 32) (hc : c.length = 32) (hA : Byt a) (hB : Byt b) (hC : Byt c) (haa : lessB a a = false) (hab : lessB a b = true) (hba : lessB b a = false) (hbc : lessB b c = true) (hac : lessB a c = true) (he : decide (a = b) = false) (he2 : decide (a ≠ b) = true) :
    Calls Try.prog 7 #[.agg (dg a).toArray, .agg (dg b).toArray, .agg (dg c).toArray] w fun e w' => e = .returned (.bool true) ∧ Fr [] w w' := by
  refine calls_of (args := [.agg (dg a).toArray, .agg (dg b).toArray, .agg (dg c).toArray]) ([]) ([]) ([]) Try.func7 rfl rfl (okW0 _ _ _ _) ?_
  refine J_seq ?_
  refine J_region ?_
  refine L_box rfl rfl rfl rfl rfl (fun b0 => ?_)
  refine L_box rfl rfl rfl rfl rfl (fun b1 => ?_)
  refine L_box rfl rfl rfl rfl rfl (fun b2 => ?_)
  refine L_v rfl rfl rfl (V_assign rfl rfl) ?_
  refine L_nil ?_
  change J _ _ _ _
  refine J_seq ?_
  refine J_regionQ rfl (by kernel_rfl) ?_
  refine LQ_v rfl rfl rfl (V_loadW 0 rfl rfl rfl Try.underlying23 rfl (szd sz23l (by simp [dg_length, setBit_length, mix_length, zd_length, pre, withV_length, preV_length, *]))) ?_
  refine LQ_v rfl rfl rfl (V_loadW 0 rfl rfl rfl Try.underlying23 rfl (szd sz23l (by simp [dg_length, setBit_length, mix_length, zd_length, pre, withV_length, preV_length, *]))) ?_
  refine LQ_callV rfl rfl rfl rfl rfl rfl tx19l (fun w _ => less_v _ _ w (by first | assumption | exact withV_length (by assumption) _ _ | exact preV_length _ _) (by first | assumption | exact withV_length (by assumption) _ _ | exact preV_length _ _) (by first | assumption | exact byt128 | exact byt129 | exact withV_byt (by assumption) _ _ | exact preV_byt (by assumption) _) (by first | assumption | exact byt128 | exact byt129 | exact withV_byt (by assumption) _ _ | exact preV_byt (by assumption) _) haa) ?_
  refine LQ_v rfl rfl rfl (V_not rfl rfl rfl) ?_
  refine LQ_v rfl rfl rfl (V_move rfl rfl) ?_
  refine LQ_wv rfl rfl rfl rfl rfl rfl (V_loadW 0 rfl rfl rfl Try.underlying23 rfl (szd sz23l (by simp [dg_length, setBit_length, mix_length, zd_length, pre, withV_length, preV_length, *]))) ?_
  refine LQ_wv rfl rfl rfl rfl rfl rfl (V_loadW 1 rfl rfl rfl Try.underlying23 rfl (szd sz23l (by simp [dg_length, setBit_length, mix_length, zd_length, pre, withV_length, preV_length, *]))) ?_
  refine LQ_wv rfl rfl rfl rfl rfl rfl (V_eqD rfl rfl rfl eg23 Try.underlying23 Try.underlying5 sz5l (by simp [dg_length, setBit_length, mix_length, zd_length, pre, withV_length, preV_length, *]) (by simp [dg_length, setBit_length, mix_length, zd_length, pre, withV_length, preV_length, *]) he) ?_
  refine LQ_wv rfl rfl rfl rfl rfl rfl (V_move rfl rfl) ?_
  refine LQ_wv rfl rfl rfl rfl rfl rfl (V_loadW 0 rfl rfl rfl Try.underlying23 rfl (szd sz23l (by simp [dg_length, setBit_length, mix_length, zd_length, pre, withV_length, preV_length, *]))) ?_
  refine LQ_wv rfl rfl rfl rfl rfl rfl (V_loadW 1 rfl rfl rfl Try.underlying23 rfl (szd sz23l (by simp [dg_length, setBit_length, mix_length, zd_length, pre, withV_length, preV_length, *]))) ?_
  refine LQ_wcallV rfl rfl rfl rfl rfl rfl rfl rfl rfl tx19l (fun w _ => less_v _ _ w (by first | assumption | exact withV_length (by assumption) _ _ | exact preV_length _ _) (by first | assumption | exact withV_length (by assumption) _ _ | exact preV_length _ _) (by first | assumption | exact byt128 | exact byt129 | exact withV_byt (by assumption) _ _ | exact preV_byt (by assumption) _) (by first | assumption | exact byt128 | exact byt129 | exact withV_byt (by assumption) _ _ | exact preV_byt (by assumption) _) hab) ?_
  refine LQ_wv rfl rfl rfl rfl rfl rfl (V_loadW 1 rfl rfl rfl Try.underlying23 rfl (szd sz23l (by simp [dg_length, setBit_length, mix_length, zd_length, pre, withV_length, preV_length, *]))) ?_
  refine LQ_wv rfl rfl rfl rfl rfl rfl (V_loadW 0 rfl rfl rfl Try.underlying23 rfl (szd sz23l (by simp [dg_length, setBit_length, mix_length, zd_length, pre, withV_length, preV_length, *]))) ?_
  refine LQ_wcallV rfl rfl rfl rfl rfl rfl rfl rfl rfl tx19l (fun w _ => less_v _ _ w (by first | assumption | exact withV_length (by assumption) _ _ | exact preV_length _ _) (by first | assumption | exact withV_length (by assumption) _ _ | exact preV_length _ _) (by first | assumption | exact byt128 | exact byt129 | exact withV_byt (by assumption) _ _ | exact preV_byt (by assumption) _) (by first | assumption | exact byt128 | exact byt129 | exact withV_byt (by assumption) _ _ | exact preV_byt (by assumption) _) hba) ?_
  refine LQ_wv rfl rfl rfl rfl rfl rfl (V_neB rfl rfl rfl Try.underlying4 rfl) ?_
  first | refine LQ_wv rfl rfl rfl rfl rfl rfl (V_pickT rfl rfl rfl) ?_ | refine LQ_wv rfl rfl rfl rfl rfl rfl (V_pickF rfl rfl rfl) ?_
  first | refine LQ_v rfl rfl rfl (V_pickT rfl rfl rfl) ?_ | refine LQ_v rfl rfl rfl (V_pickF rfl rfl rfl) ?_
  refine LQ_v rfl rfl rfl (V_move rfl rfl) ?_
  refine LQ_wv rfl rfl rfl rfl rfl rfl (V_loadW 0 rfl rfl rfl Try.underlying23 rfl (szd sz23l (by simp [dg_length, setBit_length, mix_length, zd_length, pre, withV_length, preV_length, *]))) ?_
  refine LQ_wv rfl rfl rfl rfl rfl rfl (V_loadW 1 rfl rfl rfl Try.underlying23 rfl (szd sz23l (by simp [dg_length, setBit_length, mix_length, zd_length, pre, withV_length, preV_length, *]))) ?_
  refine LQ_wv rfl rfl rfl rfl rfl rfl (V_neD rfl rfl rfl eg23 Try.underlying23 Try.underlying5 sz5l (by simp [dg_length, setBit_length, mix_length, zd_length, pre, withV_length, preV_length, *]) (by simp [dg_length, setBit_length, mix_length, zd_length, pre, withV_length, preV_length, *]) he2) ?_
  refine LQ_wv rfl rfl rfl rfl rfl rfl (V_move rfl rfl) ?_
  refine LQ_skip rfl rfl rfl rfl rfl rfl rfl ?_
  refine LQ_skip rfl rfl rfl rfl rfl rfl rfl ?_
  refine LQ_skip rfl rfl rfl rfl rfl rfl rfl ?_
  refine LQ_skip rfl rfl rfl rfl rfl rfl rfl ?_
  first | refine LQ_wv rfl rfl rfl rfl rfl rfl (V_pickT rfl rfl rfl) ?_ | refine LQ_wv rfl rfl rfl rfl rfl rfl (V_pickF rfl rfl rfl) ?_
  first | refine LQ_v rfl rfl rfl (V_pickT rfl rfl rfl) ?_ | refine LQ_v rfl rfl rfl (V_pickF rfl rfl rfl) ?_
  refine LQ_v rfl rfl rfl (V_assign rfl rfl) ?_
  refine LQ_nil ?_
  change J _ _ _ _
  refine J_seq ?_
  refine J_region ?_
  refine L_callV rfl rfl rfl rfl rfl rfl tx11l (fun w _ => bits_w w) ?_
  refine L_v rfl rfl rfl (V_move rfl rfl) ?_
  refine L_wcallV rfl rfl rfl rfl rfl rfl rfl rfl rfl tx14l (fun w _ => commons_w w) ?_
  first | refine L_v rfl rfl rfl (V_pickT rfl rfl rfl) ?_ | refine L_v rfl rfl rfl (V_pickF rfl rfl rfl) ?_
  refine L_v rfl rfl rfl (V_move rfl rfl) ?_
  refine L_wv rfl rfl rfl rfl rfl rfl (V_move rfl rfl) ?_
  first | refine L_v rfl rfl rfl (V_pickT rfl rfl rfl) ?_ | refine L_v rfl rfl rfl (V_pickF rfl rfl rfl) ?_
  refine L_v rfl rfl rfl (V_move rfl rfl) ?_
  refine L_wv rfl rfl rfl rfl rfl rfl (V_loadW 0 rfl rfl rfl Try.underlying23 rfl (szd sz23l (by simp [dg_length, setBit_length, mix_length, zd_length, pre, withV_length, preV_length, *]))) ?_
  refine L_wv rfl rfl rfl rfl rfl rfl (V_loadW 1 rfl rfl rfl Try.underlying23 rfl (szd sz23l (by simp [dg_length, setBit_length, mix_length, zd_length, pre, withV_length, preV_length, *]))) ?_
  refine L_wcallV rfl rfl rfl rfl rfl rfl rfl rfl rfl tx19l (fun w _ => less_v _ _ w (by first | assumption | exact withV_length (by assumption) _ _ | exact preV_length _ _) (by first | assumption | exact withV_length (by assumption) _ _ | exact preV_length _ _) (by first | assumption | exact byt128 | exact byt129 | exact withV_byt (by assumption) _ _ | exact preV_byt (by assumption) _) (by first | assumption | exact byt128 | exact byt129 | exact withV_byt (by assumption) _ _ | exact preV_byt (by assumption) _) hab) ?_
  refine L_wv rfl rfl rfl rfl rfl rfl (V_not rfl rfl rfl) ?_
  refine L_wv rfl rfl rfl rfl rfl rfl (V_move rfl rfl) ?_
  refine L_wv rfl rfl rfl rfl rfl rfl (V_loadW 1 rfl rfl rfl Try.underlying23 rfl (szd sz23l (by simp [dg_length, setBit_length, mix_length, zd_length, pre, withV_length, preV_length, *]))) ?_
  refine L_wv rfl rfl rfl rfl rfl rfl (V_loadW 2 rfl rfl rfl Try.underlying23 rfl (szd sz23l (by simp [dg_length, setBit_length, mix_length, zd_length, pre, withV_length, preV_length, *]))) ?_
  refine L_wcallV rfl rfl rfl rfl rfl rfl rfl rfl rfl tx19l (fun w _ => less_v _ _ w (by first | assumption | exact withV_length (by assumption) _ _ | exact preV_length _ _) (by first | assumption | exact withV_length (by assumption) _ _ | exact preV_length _ _) (by first | assumption | exact byt128 | exact byt129 | exact withV_byt (by assumption) _ _ | exact preV_byt (by assumption) _) (by first | assumption | exact byt128 | exact byt129 | exact withV_byt (by assumption) _ _ | exact preV_byt (by assumption) _) hbc) ?_
  refine L_wv rfl rfl rfl rfl rfl rfl (V_not rfl rfl rfl) ?_
  first | refine L_wv rfl rfl rfl rfl rfl rfl (V_pickT rfl rfl rfl) ?_ | refine L_wv rfl rfl rfl rfl rfl rfl (V_pickF rfl rfl rfl) ?_
  refine L_wv rfl rfl rfl rfl rfl rfl (V_move rfl rfl) ?_
  refine L_wv rfl rfl rfl rfl rfl rfl (V_loadW 0 rfl rfl rfl Try.underlying23 rfl (szd sz23l (by simp [dg_length, setBit_length, mix_length, zd_length, pre, withV_length, preV_length, *]))) ?_
  refine L_wv rfl rfl rfl rfl rfl rfl (V_loadW 2 rfl rfl rfl Try.underlying23 rfl (szd sz23l (by simp [dg_length, setBit_length, mix_length, zd_length, pre, withV_length, preV_length, *]))) ?_
  refine L_wcallV rfl rfl rfl rfl rfl rfl rfl rfl rfl tx19l (fun w _ => less_v _ _ w (by first | assumption | exact withV_length (by assumption) _ _ | exact preV_length _ _) (by first | assumption | exact withV_length (by assumption) _ _ | exact preV_length _ _) (by first | assumption | exact byt128 | exact byt129 | exact withV_byt (by assumption) _ _ | exact preV_byt (by assumption) _) (by first | assumption | exact byt128 | exact byt129 | exact withV_byt (by assumption) _ _ | exact preV_byt (by assumption) _) hac) ?_
  first | refine L_wv rfl rfl rfl rfl rfl rfl (V_pickT rfl rfl rfl) ?_ | refine L_wv rfl rfl rfl rfl rfl rfl (V_pickF rfl rfl rfl) ?_
  first | refine L_v rfl rfl rfl (V_pickT rfl rfl rfl) ?_ | refine L_v rfl rfl rfl (V_pickF rfl rfl rfl) ?_
  refine L_v rfl rfl rfl (V_assign rfl rfl) ?_
  refine L_nil ?_
  change J _ _ _ _
  refine J_ret ?_
  change Kret _ _ _ Exit.ret _
  refine ret1 rfl rfl (RV_t rfl) ?_
  exact fun w' h => ⟨rfl, h.fr⟩

theorem PathOrder_d (a b c : List Int) (w : World) (ha : a.length = 32) (hb : b.length = 32) (hc : c.length = 32) (hA : Byt a) (hB : Byt b) (hC : Byt c) (haa : lessB a a = false) (hab : lessB a b = false) (hba : lessB b a = true) (he : decide (a = b) = false) (he2 : decide (a ≠ b) = true) :
    Calls Try.prog 7 #[.agg (dg a).toArray, .agg (dg b).toArray, .agg (dg c).toArray] w fun e w' => e = .returned (.bool true) ∧ Fr [] w w' := by
  refine calls_of (args := [.agg (dg a).toArray, .agg (dg b).toArray, .agg (dg c).toArray]) ([]) ([]) ([]) Try.func7 rfl rfl (okW0 _ _ _ _) ?_
  refine J_seq ?_
  refine J_region ?_
  refine L_box rfl rfl rfl rfl rfl (fun b0 => ?_)
  refine L_box rfl rfl rfl rfl rfl (fun b1 => ?_)
  refine L_box rfl rfl rfl rfl rfl (fun b2 => ?_)
  refine L_v rfl rfl rfl (V_assign rfl rfl) ?_
  refine L_nil ?_
  change J _ _ _ _
  refine J_seq ?_
  refine J_regionQ rfl (by kernel_rfl) ?_
  refine LQ_v rfl rfl rfl (V_loadW 0 rfl rfl rfl Try.underlying23 rfl (szd sz23l (by simp [dg_length, setBit_length, mix_length, zd_length, pre, withV_length, preV_length, *]))) ?_
  refine LQ_v rfl rfl rfl (V_loadW 0 rfl rfl rfl Try.underlying23 rfl (szd sz23l (by simp [dg_length, setBit_length, mix_length, zd_length, pre, withV_length, preV_length, *]))) ?_
  refine LQ_callV rfl rfl rfl rfl rfl rfl tx19l (fun w _ => less_v _ _ w (by first | assumption | exact withV_length (by assumption) _ _ | exact preV_length _ _) (by first | assumption | exact withV_length (by assumption) _ _ | exact preV_length _ _) (by first | assumption | exact byt128 | exact byt129 | exact withV_byt (by assumption) _ _ | exact preV_byt (by assumption) _) (by first | assumption | exact byt128 | exact byt129 | exact withV_byt (by assumption) _ _ | exact preV_byt (by assumption) _) haa) ?_
  refine LQ_v rfl rfl rfl (V_not rfl rfl rfl) ?_
  refine LQ_v rfl rfl rfl (V_move rfl rfl) ?_
  refine LQ_wv rfl rfl rfl rfl rfl rfl (V_loadW 0 rfl rfl rfl Try.underlying23 rfl (szd sz23l (by simp [dg_length, setBit_length, mix_length, zd_length, pre, withV_length, preV_length, *]))) ?_
  refine LQ_wv rfl rfl rfl rfl rfl rfl (V_loadW 1 rfl rfl rfl Try.underlying23 rfl (szd sz23l (by simp [dg_length, setBit_length, mix_length, zd_length, pre, withV_length, preV_length, *]))) ?_
  refine LQ_wv rfl rfl rfl rfl rfl rfl (V_eqD rfl rfl rfl eg23 Try.underlying23 Try.underlying5 sz5l (by simp [dg_length, setBit_length, mix_length, zd_length, pre, withV_length, preV_length, *]) (by simp [dg_length, setBit_length, mix_length, zd_length, pre, withV_length, preV_length, *]) he) ?_
  refine LQ_wv rfl rfl rfl rfl rfl rfl (V_move rfl rfl) ?_
  refine LQ_wv rfl rfl rfl rfl rfl rfl (V_loadW 0 rfl rfl rfl Try.underlying23 rfl (szd sz23l (by simp [dg_length, setBit_length, mix_length, zd_length, pre, withV_length, preV_length, *]))) ?_
  refine LQ_wv rfl rfl rfl rfl rfl rfl (V_loadW 1 rfl rfl rfl Try.underlying23 rfl (szd sz23l (by simp [dg_length, setBit_length, mix_length, zd_length, pre, withV_length, preV_length, *]))) ?_
  refine LQ_wcallV rfl rfl rfl rfl rfl rfl rfl rfl rfl tx19l (fun w _ => less_v _ _ w (by first | assumption | exact withV_length (by assumption) _ _ | exact preV_length _ _) (by first | assumption | exact withV_length (by assumption) _ _ | exact preV_length _ _) (by first | assumption | exact byt128 | exact byt129 | exact withV_byt (by assumption) _ _ | exact preV_byt (by assumption) _) (by first | assumption | exact byt128 | exact byt129 | exact withV_byt (by assumption) _ _ | exact preV_byt (by assumption) _) hab) ?_
  refine LQ_wv rfl rfl rfl rfl rfl rfl (V_loadW 1 rfl rfl rfl Try.underlying23 rfl (szd sz23l (by simp [dg_length, setBit_length, mix_length, zd_length, pre, withV_length, preV_length, *]))) ?_
  refine LQ_wv rfl rfl rfl rfl rfl rfl (V_loadW 0 rfl rfl rfl Try.underlying23 rfl (szd sz23l (by simp [dg_length, setBit_length, mix_length, zd_length, pre, withV_length, preV_length, *]))) ?_
  refine LQ_wcallV rfl rfl rfl rfl rfl rfl rfl rfl rfl tx19l (fun w _ => less_v _ _ w (by first | assumption | exact withV_length (by assumption) _ _ | exact preV_length _ _) (by first | assumption | exact withV_length (by assumption) _ _ | exact preV_length _ _) (by first | assumption | exact byt128 | exact byt129 | exact withV_byt (by assumption) _ _ | exact preV_byt (by assumption) _) (by first | assumption | exact byt128 | exact byt129 | exact withV_byt (by assumption) _ _ | exact preV_byt (by assumption) _) hba) ?_
  refine LQ_wv rfl rfl rfl rfl rfl rfl (V_neB rfl rfl rfl Try.underlying4 rfl) ?_
  first | refine LQ_wv rfl rfl rfl rfl rfl rfl (V_pickT rfl rfl rfl) ?_ | refine LQ_wv rfl rfl rfl rfl rfl rfl (V_pickF rfl rfl rfl) ?_
  first | refine LQ_v rfl rfl rfl (V_pickT rfl rfl rfl) ?_ | refine LQ_v rfl rfl rfl (V_pickF rfl rfl rfl) ?_
  refine LQ_v rfl rfl rfl (V_move rfl rfl) ?_
  refine LQ_wv rfl rfl rfl rfl rfl rfl (V_loadW 0 rfl rfl rfl Try.underlying23 rfl (szd sz23l (by simp [dg_length, setBit_length, mix_length, zd_length, pre, withV_length, preV_length, *]))) ?_
  refine LQ_wv rfl rfl rfl rfl rfl rfl (V_loadW 1 rfl rfl rfl Try.underlying23 rfl (szd sz23l (by simp [dg_length, setBit_length, mix_length, zd_length, pre, withV_length, preV_length, *]))) ?_
  refine LQ_wv rfl rfl rfl rfl rfl rfl (V_neD rfl rfl rfl eg23 Try.underlying23 Try.underlying5 sz5l (by simp [dg_length, setBit_length, mix_length, zd_length, pre, withV_length, preV_length, *]) (by simp [dg_length, setBit_length, mix_length, zd_length, pre, withV_length, preV_length, *]) he2) ?_
  refine LQ_wv rfl rfl rfl rfl rfl rfl (V_move rfl rfl) ?_
  refine LQ_skip rfl rfl rfl rfl rfl rfl rfl ?_
  refine LQ_skip rfl rfl rfl rfl rfl rfl rfl ?_
  refine LQ_skip rfl rfl rfl rfl rfl rfl rfl ?_
  refine LQ_skip rfl rfl rfl rfl rfl rfl rfl ?_
  first | refine LQ_wv rfl rfl rfl rfl rfl rfl (V_pickT rfl rfl rfl) ?_ | refine LQ_wv rfl rfl rfl rfl rfl rfl (V_pickF rfl rfl rfl) ?_
  first | refine LQ_v rfl rfl rfl (V_pickT rfl rfl rfl) ?_ | refine LQ_v rfl rfl rfl (V_pickF rfl rfl rfl) ?_
  refine LQ_v rfl rfl rfl (V_assign rfl rfl) ?_
  refine LQ_nil ?_
  change J _ _ _ _
  refine J_seq ?_
  refine J_region ?_
  refine L_callV rfl rfl rfl rfl rfl rfl tx11l (fun w _ => bits_w w) ?_
  refine L_v rfl rfl rfl (V_move rfl rfl) ?_
  refine L_wcallV rfl rfl rfl rfl rfl rfl rfl rfl rfl tx14l (fun w _ => commons_w w) ?_
  first | refine L_v rfl rfl rfl (V_pickT rfl rfl rfl) ?_ | refine L_v rfl rfl rfl (V_pickF rfl rfl rfl) ?_
  refine L_v rfl rfl rfl (V_move rfl rfl) ?_
  refine L_wv rfl rfl rfl rfl rfl rfl (V_move rfl rfl) ?_
  first | refine L_v rfl rfl rfl (V_pickT rfl rfl rfl) ?_ | refine L_v rfl rfl rfl (V_pickF rfl rfl rfl) ?_
  refine L_v rfl rfl rfl (V_move rfl rfl) ?_
  refine L_wv rfl rfl rfl rfl rfl rfl (V_loadW 0 rfl rfl rfl Try.underlying23 rfl (szd sz23l (by simp [dg_length, setBit_length, mix_length, zd_length, pre, withV_length, preV_length, *]))) ?_
  refine L_wv rfl rfl rfl rfl rfl rfl (V_loadW 1 rfl rfl rfl Try.underlying23 rfl (szd sz23l (by simp [dg_length, setBit_length, mix_length, zd_length, pre, withV_length, preV_length, *]))) ?_
  refine L_wcallV rfl rfl rfl rfl rfl rfl rfl rfl rfl tx19l (fun w _ => less_v _ _ w (by first | assumption | exact withV_length (by assumption) _ _ | exact preV_length _ _) (by first | assumption | exact withV_length (by assumption) _ _ | exact preV_length _ _) (by first | assumption | exact byt128 | exact byt129 | exact withV_byt (by assumption) _ _ | exact preV_byt (by assumption) _) (by first | assumption | exact byt128 | exact byt129 | exact withV_byt (by assumption) _ _ | exact preV_byt (by assumption) _) hab) ?_
  refine L_wv rfl rfl rfl rfl rfl rfl (V_not rfl rfl rfl) ?_
  refine L_wv rfl rfl rfl rfl rfl rfl (V_move rfl rfl) ?_
  refine L_skip rfl rfl rfl rfl rfl rfl rfl ?_
  refine L_skip rfl rfl rfl rfl rfl rfl rfl ?_
  refine L_skip rfl rfl rfl rfl rfl rfl rfl ?_
  refine L_skip rfl rfl rfl rfl rfl rfl rfl ?_
  first | refine L_wv rfl rfl rfl rfl rfl rfl (V_pickT rfl rfl rfl) ?_ | refine L_wv rfl rfl rfl rfl rfl rfl (V_pickF rfl rfl rfl) ?_
  refine L_wv rfl rfl rfl rfl rfl rfl (V_move rfl rfl) ?_
  refine L_skip rfl rfl rfl rfl rfl rfl rfl ?_
  refine L_skip rfl rfl rfl rfl rfl rfl rfl ?_
  refine L_skip rfl rfl rfl rfl rfl rfl rfl ?_
  first | refine L_wv rfl rfl rfl rfl rfl rfl (V_pickT rfl rfl rfl) ?_ | refine L_wv rfl rfl rfl rfl rfl rfl (V_pickF rfl rfl rfl) ?_
  first | refine L_v rfl rfl rfl (V_pickT rfl rfl rfl) ?_ | refine L_v rfl rfl rfl (V_pickF rfl rfl rfl) ?_
  refine L_v rfl rfl rfl (V_assign rfl rfl) ?_
  refine L_nil ?_
  change J _ _ _ _
  refine J_ret ?_
  change Kret _ _ _ Exit.ret _
  refine ret1 rfl rfl (RV_t rfl) ?_
  exact fun w' h => ⟨rfl, h.fr⟩

theorem PathOrder_w (a b c : List Int) (w : World) (ha : a.length = 32) (hb : b.length = 32) (hc : c.length = 32) (hA : Byt a) (hB : Byt b) (hC : Byt c) :
    Calls Try.prog 7 #[.agg (dg a).toArray, .agg (dg b).toArray, .agg (dg c).toArray] w fun e w' => e = .returned (.bool true) ∧ Fr [] w w' := by
  have haa : lessB a a = false := less_self rfl
  by_cases he : a = b
  · exact PathOrder_a a b c w ha hb hc hA hB hC haa (less_self he) (decide_eq_true he) (decide_eq_false (fun h => h he))
  · have h2 := less_two ha hb hA hB he
    cases hab : lessB a b with
    | false => exact PathOrder_d a b c w ha hb hc hA hB hC haa hab (by rw [h2, hab]; rfl) (decide_eq_false he) (decide_eq_true he)
    | true =>
      cases hbc : lessB b c with
      | false => exact PathOrder_b a b c w ha hb hc hA hB hC haa hab (by rw [h2, hab]; rfl) hbc (decide_eq_false he) (decide_eq_true he)
      | true => exact PathOrder_c a b c w ha hb hc hA hB hC haa hab (by rw [h2, hab]; rfl) hbc (less_trans hab hbc) (decide_eq_false he) (decide_eq_true he)

end Go.Proofs.Ytokpnjbfbkphiaa
