/- What the functions of layer 4 come to. -/
import Derived.Test.YtokpnjbfbkphiaaSx
import Derived.Test.YtokpnjbfbkphiaaPathPure
import Derived.Test.YtokpnjbfbkphiaaProg
set_option linter.unusedVariables false
set_option linter.unusedSimpArgs false
set_option maxRecDepth 100000
namespace Go.Proofs.Ytokpnjbfbkphiaa
open Go.Sx
theorem bd0 (w : World) : (Instr.build 23 ([] : List (Nat × Value)).toArray).run Try.prog w = .ok (.agg (dg zd).toArray) w := by kernel_rfl
theorem bd128 (w : World) : (Instr.build 23 [(0, .int .u8 128)].toArray).run Try.prog w = .ok (.agg (dg (128 :: List.replicate 31 0)).toArray) w := by kernel_rfl
theorem bd129 (w : World) : (Instr.build 23 [(0, .int .u8 129)].toArray).run Try.prog w = .ok (.agg (dg (129 :: List.replicate 31 0)).toArray) w := by kernel_rfl
theorem eg23 : Try.prog.eqGuardType Try.prog.depth 23 = false := by kernel_rfl
theorem szd {x : Option Nat} {n m : Nat} (h : x = some n) (e : m = n) : x = some m := by rw [h, e]
theorem sz5 : (Try.prog.info? 5).map (·.size) = some 1 := by kernel_rfl
theorem sz23 : (Try.prog.info? 23).map (·.size) = some 32 := by kernel_rfl
theorem tx9 : Txt Try.prog 9 := txt_of Try.func9 rfl (by kernel_rfl)
theorem tx12 : Txt Try.prog 12 := txt_of Try.func12 rfl (by kernel_rfl)
theorem tx15 : Txt Try.prog 15 := txt_of Try.func15 rfl (by kernel_rfl)
theorem tx16 : Txt Try.prog 16 := txt_of Try.func16 rfl (by kernel_rfl)
theorem tx17 : Txt Try.prog 17 := txt_of Try.func17 rfl (by kernel_rfl)
theorem tx18 : Txt Try.prog 18 := txt_of Try.func18 rfl (by kernel_rfl)
theorem tx19 : Txt Try.prog 19 := txt_of Try.func19 rfl (by kernel_rfl)
theorem tx22 : Txt Try.prog 22 := txt_of Try.func22 rfl (by kernel_rfl)
theorem tx23 : Txt Try.prog 23 := txt_of Try.func23 rfl (by kernel_rfl)
theorem tx24 : Txt Try.prog 24 := txt_of Try.func24 rfl (by kernel_rfl)
theorem tx25 : Txt Try.prog 25 := txt_of Try.func25 rfl (by kernel_rfl)
theorem tx26 : Txt Try.prog 26 := txt_of Try.func26 rfl (by kernel_rfl)
theorem z23 : (Try.prog.info? 23).bind (·.zero) = some (.agg (dg zd).toArray) := by kernel_rfl

theorem mask_w (i : Int) (w : World) (h0 : 0 ≤ i) (h1 : i < 256) :
    Calls Try.prog 22 #[.int .i64 i] w fun e w' => e = .returned (.int .u8 (wt i)) ∧ Fr [] w w' := by
  refine calls_of (args := [.int .i64 i]) ([]) ([]) ([]) Try.func22 rfl rfl (okW0 _ _ _ _) ?_
  refine J_seq ?_
  refine J_region ?_
  refine L_v rfl rfl rfl (V_assign rfl rfl) ?_
  refine L_nil ?_
  change J _ _ _ _
  refine J_seq ?_
  refine J_region ?_
  refine L_v rfl rfl rfl (V_move rfl rfl) ?_
  refine L_v rfl rfl rfl (V_rem rfl rfl rfl (by omega) (by first | exact r64 (by omega) | rfl)) ?_
  refine L_v rfl rfl rfl (V_sub rfl rfl rfl (by first | exact Go.IntWalk.i64_in _ (by omega) | rfl)) ?_
  refine L_v rfl rfl rfl (V_shl rfl rfl rfl (by omega) rfl) ?_
  refine L_v rfl rfl rfl (V_assign rfl rfl) ?_
  refine L_nil ?_
  change J _ _ _ _
  refine J_ret ?_
  change Kret _ _ _ Exit.ret _
  refine ret1 rfl rfl (RV_t rfl) ?_
  exact fun w' h => ⟨by rw [mask_eq i h0], h.fr⟩

theorem bit_w (d : List Int) (i : Int) (w : World) (hl : d.length = 32) (hb : Byt d) :
    Calls Try.prog 9 #[.agg (dg d).toArray, .int .i64 i] w fun e w' => e = .returned (.tuple #[.int .i64 (bitV d i), .int .i64 (bitE i)]) ∧ Fr [] w w' := by
  refine calls_of (args := [.agg (dg d).toArray, .int .i64 i]) ([]) ([]) ([]) Try.func9 rfl rfl (okW0 _ _ _ _) ?_
  refine J_seq ?_
  refine J_region ?_
  refine L_box rfl rfl rfl rfl rfl (fun b0 => ?_)
  refine L_v rfl rfl rfl (V_assign rfl rfl) ?_
  refine L_v rfl rfl rfl (V_assign rfl rfl) ?_
  refine L_nil ?_
  change J _ _ _ _
  refine J_seq ?_
  refine J_seq ?_
  refine J_region ?_
  refine L_v rfl rfl rfl (V_move rfl rfl) ?_
  refine L_v rfl rfl rfl (V_lss rfl rfl rfl (by first | exact decide_eq_true (by omega) | exact decide_eq_false (by omega) | rfl)) ?_
  refine L_v rfl rfl rfl (V_move rfl rfl) ?_
  refine L_split 8 rfl (fun h1 => ?_) (fun h1 => ?_)
  ·
    first | (have h1 := of_decide_eq_true h1) | (have h1 := of_decide_eq_false h1) | skip
    refine L_skip rfl rfl rfl rfl rfl rfl rfl ?_
    refine L_skip rfl rfl rfl rfl rfl rfl rfl ?_
    first | refine L_v rfl rfl rfl (V_pickT rfl rfl rfl) ?_ | refine L_v rfl rfl rfl (V_pickF rfl rfl rfl) ?_
    refine L_nil ?_
    change J _ _ _ _
    refine J_true rfl ?_
    refine J_seq ?_
    refine J_region ?_
    refine L_v rfl rfl rfl (V_assign rfl rfl) ?_
    refine L_v rfl rfl rfl (V_assign rfl rfl) ?_
    refine L_nil ?_
    change J _ _ _ _
    refine J_ret ?_
    change Kret _ _ _ Exit.ret _
    refine ret2 rfl rfl (RV_t rfl) (RV_t rfl) ?_
    exact fun w' h => ⟨by rw [bitV_out _ _ (by omega), bitE_out _ (by omega)], h.fr⟩
  ·
    first | (have h1 := of_decide_eq_true h1) | (have h1 := of_decide_eq_false h1) | skip
    refine L_wv rfl rfl rfl rfl rfl rfl (V_move rfl rfl) ?_
    refine L_wv rfl rfl rfl rfl rfl rfl (V_geq rfl rfl rfl (by first | exact decide_eq_true (by omega) | exact decide_eq_false (by omega) | rfl)) ?_
    first | refine L_v rfl rfl rfl (V_pickT rfl rfl rfl) ?_ | refine L_v rfl rfl rfl (V_pickF rfl rfl rfl) ?_
    refine L_nil ?_
    change J _ _ _ _
    refine J_cond rfl (fun h2 => ?_) (fun h2 => ?_)
    ·
      first | (have h2 := of_decide_eq_true h2) | (have h2 := of_decide_eq_false h2) | skip
      refine J_seq ?_
      refine J_region ?_
      refine L_v rfl rfl rfl (V_assign rfl rfl) ?_
      refine L_v rfl rfl rfl (V_assign rfl rfl) ?_
      refine L_nil ?_
      change J _ _ _ _
      refine J_ret ?_
      change Kret _ _ _ Exit.ret _
      refine ret2 rfl rfl (RV_t rfl) (RV_t rfl) ?_
      exact fun w' h => ⟨by rw [bitV_out _ _ (by omega), bitE_out _ (by omega)], h.fr⟩
    ·
      first | (have h2 := of_decide_eq_true h2) | (have h2 := of_decide_eq_false h2) | skip
      refine J_skip ?_
      change J _ _ _ _
      refine J_seq ?_
      refine J_seq ?_
      refine J_regionQ rfl (by kernel_rfl) ?_
      refine LQ_v rfl rfl rfl (V_move rfl rfl) ?_
      refine LQ_v rfl rfl rfl (V_quo rfl rfl rfl (by omega) (by first | exact q64 (by omega) (by omega) (by omega) | rfl)) ?_
      refine LQ_v rfl rfl rfl (V_indexArr rfl rfl rfl Try.underlying23 sz5 (by omega) (by omega) (by first | exact ix0 _ | exact ix1 _ _ | rfl)) ?_
      refine LQ_v rfl rfl rfl (V_load1 0 rfl rfl rfl Try.underlying5 rfl (by first | rfl | exact dg_get (by omega) (by simp only [mix_length]; omega) | exact dg_get (by omega) (by omega))) ?_
      refine LQ_v rfl rfl rfl (V_move rfl rfl) ?_
      refine LQ_callV rfl rfl rfl rfl rfl rfl tx22 (fun w _ => mask_w _ w (by omega) (by omega)) ?_
      refine LQ_v rfl rfl rfl (V_and rfl rfl rfl rfl) ?_
      refine LQ_v rfl rfl rfl (V_neq rfl rfl rfl (by first | exact decide_eq_true (by omega) | exact decide_eq_false (by omega) | rfl)) ?_
      refine LQ_nil ?_
      change J _ _ _ _
      refine J_cond rfl (fun h3 => ?_) (fun h3 => ?_)
      ·
        first | (have h3 := of_decide_eq_true h3) | (have h3 := of_decide_eq_false h3) | skip
        refine J_seq ?_
        refine J_region ?_
        refine L_v rfl rfl rfl (V_assign rfl rfl) ?_
        refine L_v rfl rfl rfl (V_assign rfl rfl) ?_
        refine L_nil ?_
        change J _ _ _ _
        refine J_ret ?_
        change Kret _ _ _ Exit.ret _
        refine ret2 rfl rfl (RV_t rfl) (RV_t rfl) ?_
        exact fun w' h => ⟨by rw [bitV_one d i hb (by omega) (by omega) (by assumption), bitE_in _ (by omega) (by omega)], h.fr⟩
      ·
        first | (have h3 := of_decide_eq_true h3) | (have h3 := of_decide_eq_false h3) | skip
        refine J_skip ?_
        change J _ _ _ _
        refine J_seq ?_
        refine J_region ?_
        refine L_v rfl rfl rfl (V_assign rfl rfl) ?_
        refine L_v rfl rfl rfl (V_assign rfl rfl) ?_
        refine L_nil ?_
        change J _ _ _ _
        refine J_ret ?_
        change Kret _ _ _ Exit.ret _
        refine ret2 rfl rfl (RV_t rfl) (RV_t rfl) ?_
        exact fun w' h => ⟨by rw [bitV_no d i hb (by omega) (by omega) (by assumption), bitE_in _ (by omega) (by omega)], h.fr⟩

theorem with_w (d : List Int) (i b : Int) (w : World) (hl : d.length = 32) (hb : Byt d) :
    Calls Try.prog 21 #[.agg (dg d).toArray, .int .i64 i, .int .i64 b] w fun e w' => e = .returned (.tuple #[.agg (dg (withV d i b)).toArray, .int .i64 (withE i b)]) ∧ Fr [] w w' := by
  refine calls_of (args := [.agg (dg d).toArray, .int .i64 i, .int .i64 b]) ([]) ([]) ([]) Try.func21 rfl rfl (okW0 _ _ _ _) ?_
  refine J_seq ?_
  refine J_region ?_
  refine L_box rfl rfl rfl rfl rfl (fun b0 => ?_)
  refine L_alloc rfl rfl rfl rfl z23 (fun b1 => ?_)
  refine L_v rfl rfl rfl (V_assign rfl rfl) ?_
  refine L_nil ?_
  change J _ _ _ _
  refine J_seq ?_
  refine J_block ?_
  refine J_seq ?_
  refine J_region ?_
  refine L_v rfl rfl rfl (V_move rfl rfl) ?_
  refine L_v rfl rfl rfl (V_lss rfl rfl rfl (by first | exact decide_eq_true (by omega) | exact decide_eq_false (by omega) | rfl)) ?_
  refine L_v rfl rfl rfl (V_move rfl rfl) ?_
  refine L_split 12 rfl (fun h1 => ?_) (fun h1 => ?_)
  ·
    first | (have h1 := of_decide_eq_true h1) | (have h1 := of_decide_eq_false h1) | skip
    refine L_skip rfl rfl rfl rfl rfl rfl rfl ?_
    refine L_skip rfl rfl rfl rfl rfl rfl rfl ?_
    first | refine L_v rfl rfl rfl (V_pickT rfl rfl rfl) ?_ | refine L_v rfl rfl rfl (V_pickF rfl rfl rfl) ?_
    refine L_v rfl rfl rfl (V_assign rfl rfl) ?_
    refine L_nil ?_
    change J _ _ _ _
    refine J_true rfl ?_
    refine J_seq ?_
    refine J_region ?_
    refine L_v rfl rfl rfl (V_build (vs := []) rfl rfl bd0) ?_
    refine L_storeW 1 rfl rfl rfl rfl rfl rfl (szd sz23 (by simp [dg_length, setBit_length, mix_length, zd_length, pre, withV_length, preV_length, *])) (dg_one _) (by simp [dg_length, setBit_length, mix_length, zd_length, pre, withV_length, preV_length, *]) ?_
    refine L_v rfl rfl rfl (V_assign rfl rfl) ?_
    refine L_nil ?_
    change J _ _ _ _
    refine J_ret ?_
    change Kret _ _ _ Exit.ret _
    refine ret2 rfl rfl (RV_c 1 rfl rfl Try.underlying23 rfl (szd sz23 (by simp [dg_length, setBit_length, mix_length, zd_length, pre, withV_length, preV_length, *]))) (RV_t rfl) ?_
    exact fun w' h => ⟨by rw [withV_out _ _ _ (by omega), withE_out _ _ (by omega)], h.fr⟩
  ·
    first | (have h1 := of_decide_eq_true h1) | (have h1 := of_decide_eq_false h1) | skip
    refine L_wv rfl rfl rfl rfl rfl rfl (V_move rfl rfl) ?_
    refine L_wv rfl rfl rfl rfl rfl rfl (V_geq rfl rfl rfl (by first | exact decide_eq_true (by omega) | exact decide_eq_false (by omega) | rfl)) ?_
    first | refine L_v rfl rfl rfl (V_pickT rfl rfl rfl) ?_ | refine L_v rfl rfl rfl (V_pickF rfl rfl rfl) ?_
    refine L_v rfl rfl rfl (V_assign rfl rfl) ?_
    refine L_nil ?_
    change J _ _ _ _
    refine J_cond rfl (fun h2 => ?_) (fun h2 => ?_)
    ·
      first | (have h2 := of_decide_eq_true h2) | (have h2 := of_decide_eq_false h2) | skip
      refine J_seq ?_
      refine J_region ?_
      refine L_v rfl rfl rfl (V_build (vs := []) rfl rfl bd0) ?_
      refine L_storeW 1 rfl rfl rfl rfl rfl rfl (szd sz23 (by simp [dg_length, setBit_length, mix_length, zd_length, pre, withV_length, preV_length, *])) (dg_one _) (by simp [dg_length, setBit_length, mix_length, zd_length, pre, withV_length, preV_length, *]) ?_
      refine L_v rfl rfl rfl (V_assign rfl rfl) ?_
      refine L_nil ?_
      change J _ _ _ _
      refine J_ret ?_
      change Kret _ _ _ Exit.ret _
      refine ret2 rfl rfl (RV_c 1 rfl rfl Try.underlying23 rfl (szd sz23 (by simp [dg_length, setBit_length, mix_length, zd_length, pre, withV_length, preV_length, *]))) (RV_t rfl) ?_
      exact fun w' h => ⟨by rw [withV_out _ _ _ (by omega), withE_out _ _ (by omega)], h.fr⟩
    ·
      first | (have h2 := of_decide_eq_true h2) | (have h2 := of_decide_eq_false h2) | skip
      refine J_seq ?_
      refine J_region ?_
      refine L_v rfl rfl rfl (V_move rfl rfl) ?_
      refine L_v rfl rfl rfl (V_eql rfl rfl rfl (by first | exact decide_eq_true (by omega) | exact decide_eq_false (by omega) | rfl)) ?_
      refine L_v rfl rfl rfl (V_assign rfl rfl) ?_
      refine L_nil ?_
      change J _ _ _ _
      refine J_cond rfl (fun h3 => ?_) (fun h3 => ?_)
      ·
        first | (have h3 := of_decide_eq_true h3) | (have h3 := of_decide_eq_false h3) | skip
        refine J_regionT 8 rfl (by kernel_rfl) ?_
        refine LQ_v rfl rfl rfl (V_move rfl rfl) ?_
        refine LQ_v rfl rfl rfl (V_quo rfl rfl rfl (by omega) (by first | exact q64 (by omega) (by omega) (by omega) | rfl)) ?_
        refine LQ_v rfl rfl rfl (V_indexArr rfl rfl rfl Try.underlying23 sz5 (by omega) (by omega) (by first | exact ix0 _ | exact ix1 _ _ | rfl)) ?_
        refine LQ_v rfl rfl rfl (V_load1 0 rfl rfl rfl Try.underlying5 rfl (by first | rfl | exact dg_get (by omega) (by simp only [mix_length]; omega) | exact dg_get (by omega) (by omega))) ?_
        refine LQ_v rfl rfl rfl (V_move rfl rfl) ?_
        refine LQ_callV rfl rfl rfl rfl rfl rfl tx22 (fun w _ => mask_w _ w (by omega) (by omega)) ?_
        refine LQ_v rfl rfl rfl (V_andNot rfl rfl rfl rfl) ?_
        refine LQ_v rfl rfl rfl (V_indexArr rfl rfl rfl Try.underlying23 sz5 (by omega) (by omega) (by first | exact ix0 _ | exact ix1 _ _ | rfl)) ?_
        refine LQ_nil ?_
        refine L_store1 0 rfl rfl rfl rfl rfl rfl rfl sz5 (by simp only [dg_length, mix_length]; omega) (dg_set _ _ _) ?_
        refine L_nil ?_
        change J _ _ _ _
        refine J_seq ?_
        refine J_region ?_
        refine L_v rfl rfl rfl (V_loadW 0 rfl rfl rfl Try.underlying23 rfl (szd sz23 (by simp [dg_length, setBit_length, mix_length, zd_length, pre, withV_length, preV_length, *]))) ?_
        refine L_storeW 1 rfl rfl rfl rfl rfl rfl (szd sz23 (by simp [dg_length, setBit_length, mix_length, zd_length, pre, withV_length, preV_length, *])) (dg_one _) (by simp [dg_length, setBit_length, mix_length, zd_length, pre, withV_length, preV_length, *]) ?_
        refine L_v rfl rfl rfl (V_assign rfl rfl) ?_
        refine L_nil ?_
        change J _ _ _ _
        refine J_ret ?_
        change Kret _ _ _ Exit.ret _
        refine ret2 rfl rfl (RV_c 1 rfl rfl Try.underlying23 rfl (szd sz23 (by simp [dg_length, setBit_length, mix_length, zd_length, pre, withV_length, preV_length, *]))) (RV_t rfl) ?_
        exact fun w' h => ⟨by rw [withV_in d i b (by omega) (by omega) (.inl (by omega)), withE_in i b (by omega) (by omega) (.inl (by omega)), andNot_wt hb, setBit, show b = 0 by omega], h.fr⟩
      ·
        first | (have h3 := of_decide_eq_true h3) | (have h3 := of_decide_eq_false h3) | skip
        refine J_seq ?_
        refine J_region ?_
        refine L_v rfl rfl rfl (V_move rfl rfl) ?_
        refine L_v rfl rfl rfl (V_eql rfl rfl rfl (by first | exact decide_eq_true (by omega) | exact decide_eq_false (by omega) | rfl)) ?_
        refine L_v rfl rfl rfl (V_assign rfl rfl) ?_
        refine L_nil ?_
        change J _ _ _ _
        refine J_cond rfl (fun h4 => ?_) (fun h4 => ?_)
        ·
          first | (have h4 := of_decide_eq_true h4) | (have h4 := of_decide_eq_false h4) | skip
          refine J_regionT 8 rfl (by kernel_rfl) ?_
          refine LQ_v rfl rfl rfl (V_move rfl rfl) ?_
          refine LQ_v rfl rfl rfl (V_quo rfl rfl rfl (by omega) (by first | exact q64 (by omega) (by omega) (by omega) | rfl)) ?_
          refine LQ_v rfl rfl rfl (V_indexArr rfl rfl rfl Try.underlying23 sz5 (by omega) (by omega) (by first | exact ix0 _ | exact ix1 _ _ | rfl)) ?_
          refine LQ_v rfl rfl rfl (V_load1 0 rfl rfl rfl Try.underlying5 rfl (by first | rfl | exact dg_get (by omega) (by simp only [mix_length]; omega) | exact dg_get (by omega) (by omega))) ?_
          refine LQ_v rfl rfl rfl (V_move rfl rfl) ?_
          refine LQ_callV rfl rfl rfl rfl rfl rfl tx22 (fun w _ => mask_w _ w (by omega) (by omega)) ?_
          refine LQ_v rfl rfl rfl (V_or rfl rfl rfl rfl) ?_
          refine LQ_v rfl rfl rfl (V_indexArr rfl rfl rfl Try.underlying23 sz5 (by omega) (by omega) (by first | exact ix0 _ | exact ix1 _ _ | rfl)) ?_
          refine LQ_nil ?_
          refine L_store1 0 rfl rfl rfl rfl rfl rfl rfl sz5 (by simp only [dg_length, mix_length]; omega) (dg_set _ _ _) ?_
          refine L_nil ?_
          change J _ _ _ _
          refine J_seq ?_
          refine J_region ?_
          refine L_v rfl rfl rfl (V_loadW 0 rfl rfl rfl Try.underlying23 rfl (szd sz23 (by simp [dg_length, setBit_length, mix_length, zd_length, pre, withV_length, preV_length, *]))) ?_
          refine L_storeW 1 rfl rfl rfl rfl rfl rfl (szd sz23 (by simp [dg_length, setBit_length, mix_length, zd_length, pre, withV_length, preV_length, *])) (dg_one _) (by simp [dg_length, setBit_length, mix_length, zd_length, pre, withV_length, preV_length, *]) ?_
          refine L_v rfl rfl rfl (V_assign rfl rfl) ?_
          refine L_nil ?_
          change J _ _ _ _
          refine J_ret ?_
          change Kret _ _ _ Exit.ret _
          refine ret2 rfl rfl (RV_c 1 rfl rfl Try.underlying23 rfl (szd sz23 (by simp [dg_length, setBit_length, mix_length, zd_length, pre, withV_length, preV_length, *]))) (RV_t rfl) ?_
          exact fun w' h => ⟨by rw [withV_in d i b (by omega) (by omega) (.inr (by omega)), withE_in i b (by omega) (by omega) (.inr (by omega)), or_wt hb, setBit, show b = 1 by omega], h.fr⟩
        ·
          first | (have h4 := of_decide_eq_true h4) | (have h4 := of_decide_eq_false h4) | skip
          refine J_seq ?_
          refine J_region ?_
          refine L_v rfl rfl rfl (V_build (vs := []) rfl rfl bd0) ?_
          refine L_storeW 1 rfl rfl rfl rfl rfl rfl (szd sz23 (by simp [dg_length, setBit_length, mix_length, zd_length, pre, withV_length, preV_length, *])) (dg_one _) (by simp [dg_length, setBit_length, mix_length, zd_length, pre, withV_length, preV_length, *]) ?_
          refine L_v rfl rfl rfl (V_assign rfl rfl) ?_
          refine L_nil ?_
          change J _ _ _ _
          refine J_ret ?_
          change Kret _ _ _ Exit.ret _
          refine ret2 rfl rfl (RV_c 1 rfl rfl Try.underlying23 rfl (szd sz23 (by simp [dg_length, setBit_length, mix_length, zd_length, pre, withV_length, preV_length, *]))) (RV_t rfl) ?_
          exact fun w' h => ⟨by rw [withV_arg d i b (by omega) (by omega) (by omega), withE_arg i b (by omega) (by omega) (by omega)], h.fr⟩

theorem prefix_w (d : List Int) (n : Int) (w : World) (hl : d.length = 32) (hb : Byt d) :
    Calls Try.prog 12 #[.agg (dg d).toArray, .int .i64 n] w fun e w' => e = .returned (.tuple #[.agg (dg (preV d n)).toArray, .int .i64 (preE n)]) ∧ Fr [] w w' := by
  refine calls_of (args := [.agg (dg d).toArray, .int .i64 n]) ([]) ([]) ([]) Try.func12 rfl rfl (okW0 _ _ _ _) ?_
  refine J_seq ?_
  refine J_region ?_
  refine L_box rfl rfl rfl rfl rfl (fun b0 => ?_)
  refine L_alloc rfl rfl rfl rfl z23 (fun b1 => ?_)
  refine L_v rfl rfl rfl (V_assign rfl rfl) ?_
  refine L_nil ?_
  change J _ _ _ _
  refine J_seq ?_
  refine J_seq ?_
  refine J_region ?_
  refine L_v rfl rfl rfl (V_move rfl rfl) ?_
  refine L_v rfl rfl rfl (V_lss rfl rfl rfl (by first | exact decide_eq_true (by omega) | exact decide_eq_false (by omega) | rfl)) ?_
  refine L_v rfl rfl rfl (V_move rfl rfl) ?_
  refine L_split 10 rfl (fun h1 => ?_) (fun h1 => ?_)
  ·
    first | (have h1 := of_decide_eq_true h1) | (have h1 := of_decide_eq_false h1) | skip
    refine L_skip rfl rfl rfl rfl rfl rfl rfl ?_
    refine L_skip rfl rfl rfl rfl rfl rfl rfl ?_
    first | refine L_v rfl rfl rfl (V_pickT rfl rfl rfl) ?_ | refine L_v rfl rfl rfl (V_pickF rfl rfl rfl) ?_
    refine L_nil ?_
    change J _ _ _ _
    refine J_true rfl ?_
    refine J_seq ?_
    refine J_region ?_
    refine L_v rfl rfl rfl (V_build (vs := []) rfl rfl bd0) ?_
    refine L_storeW 1 rfl rfl rfl rfl rfl rfl (szd sz23 (by simp [dg_length, setBit_length, mix_length, zd_length, pre, withV_length, preV_length, *])) (dg_one _) (by simp [dg_length, setBit_length, mix_length, zd_length, pre, withV_length, preV_length, *]) ?_
    refine L_v rfl rfl rfl (V_assign rfl rfl) ?_
    refine L_nil ?_
    change J _ _ _ _
    refine J_ret ?_
    change Kret _ _ _ Exit.ret _
    refine ret2 rfl rfl (RV_c 1 rfl rfl Try.underlying23 rfl (szd sz23 (by simp [dg_length, setBit_length, mix_length, zd_length, pre, withV_length, preV_length, *]))) (RV_t rfl) ?_
    exact fun w' h => ⟨by rw [preV_out _ _ (by omega), preE_out _ (by omega)], h.fr⟩
  ·
    first | (have h1 := of_decide_eq_true h1) | (have h1 := of_decide_eq_false h1) | skip
    refine L_wv rfl rfl rfl rfl rfl rfl (V_move rfl rfl) ?_
    refine L_wv rfl rfl rfl rfl rfl rfl (V_gtr rfl rfl rfl (by first | exact decide_eq_true (by omega) | exact decide_eq_false (by omega) | rfl)) ?_
    first | refine L_v rfl rfl rfl (V_pickT rfl rfl rfl) ?_ | refine L_v rfl rfl rfl (V_pickF rfl rfl rfl) ?_
    refine L_nil ?_
    change J _ _ _ _
    refine J_cond rfl (fun h2 => ?_) (fun h2 => ?_)
    ·
      first | (have h2 := of_decide_eq_true h2) | (have h2 := of_decide_eq_false h2) | skip
      refine J_seq ?_
      refine J_region ?_
      refine L_v rfl rfl rfl (V_build (vs := []) rfl rfl bd0) ?_
      refine L_storeW 1 rfl rfl rfl rfl rfl rfl (szd sz23 (by simp [dg_length, setBit_length, mix_length, zd_length, pre, withV_length, preV_length, *])) (dg_one _) (by simp [dg_length, setBit_length, mix_length, zd_length, pre, withV_length, preV_length, *]) ?_
      refine L_v rfl rfl rfl (V_assign rfl rfl) ?_
      refine L_nil ?_
      change J _ _ _ _
      refine J_ret ?_
      change Kret _ _ _ Exit.ret _
      refine ret2 rfl rfl (RV_c 1 rfl rfl Try.underlying23 rfl (szd sz23 (by simp [dg_length, setBit_length, mix_length, zd_length, pre, withV_length, preV_length, *]))) (RV_t rfl) ?_
      exact fun w' h => ⟨by rw [preV_out _ _ (by omega), preE_out _ (by omega)], h.fr⟩
    ·
      first | (have h2 := of_decide_eq_true h2) | (have h2 := of_decide_eq_false h2) | skip
      refine J_skip ?_
      change J _ _ _ _
      refine J_seq ?_
      refine J_seq ?_
      refine J_region ?_
      refine L_v rfl rfl rfl (V_move rfl rfl) ?_
      refine L_nil ?_
      change J _ _ _ _
      refine J_block ?_
      refine J_loop (X := Int) (fun k => { env := [(1, .int .i64 n), (2, .pointer (some ⟨b0, 0, none⟩)), (4, .pointer (some ⟨b1, 0, none⟩)), (15, .int .i64 k)], mem := [(b0, row 23 (dg (mix d n k))), (b1, row 23 (dg zd))] }) (fun k => 0 ≤ k ∧ k ≤ 32) (fun k => (32 - k).toNat) 0 ⟨by omega, by omega⟩ ⟨⟨rfl, rfl, rfl, rfl, trivial⟩, (by simp only []; rw [mix_zero hl]; exact List.Sublist.refl _), fun f hf => hf, rfl⟩ ?_
      rintro k ⟨hk0, hk1⟩
      refine J_seq ?_
      refine J_region ?_
      refine L_v rfl rfl rfl (V_lss rfl rfl rfl (by first | exact decide_eq_true (by omega) | exact decide_eq_false (by omega) | rfl)) ?_
      refine L_nil ?_
      change J _ _ _ _
      refine J_seq ?_
      refine J_cond rfl (fun h3 => ?_) (fun h3 => ?_)
      ·
        first | (have h3 := of_decide_eq_true h3) | (have h3 := of_decide_eq_false h3) | skip
        refine J_skip ?_
        change J _ _ _ _
        refine J_seq ?_
        refine J_block ?_
        refine J_seq ?_
        refine J_region ?_
        refine L_v rfl rfl rfl (V_move rfl rfl) ?_
        refine L_v rfl rfl rfl (V_assign rfl rfl) ?_
        refine L_nil ?_
        change J _ _ _ _
        refine J_seq ?_
        refine J_region ?_
        refine L_v rfl rfl rfl (V_move rfl rfl) ?_
        refine L_v rfl rfl rfl (V_move rfl rfl) ?_
        refine L_v rfl rfl rfl (V_mul rfl rfl rfl (by first | exact Go.IntWalk.i64_in _ (by omega) | rfl)) ?_
        refine L_v rfl rfl rfl (V_sub rfl rfl rfl (by first | exact Go.IntWalk.i64_in _ (by omega) | rfl)) ?_
        refine L_v rfl rfl rfl (V_assign rfl rfl) ?_
        refine L_nil ?_
        change J _ _ _ _
        refine J_block ?_
        refine J_seq ?_
        refine J_region ?_
        refine L_v rfl rfl rfl (V_move rfl rfl) ?_
        refine L_v rfl rfl rfl (V_leq rfl rfl rfl (by first | exact decide_eq_true (by omega) | exact decide_eq_false (by omega) | rfl)) ?_
        refine L_v rfl rfl rfl (V_assign rfl rfl) ?_
        refine L_nil ?_
        change J _ _ _ _
        refine J_cond rfl (fun h4 => ?_) (fun h4 => ?_)
        ·
          first | (have h4 := of_decide_eq_true h4) | (have h4 := of_decide_eq_false h4) | skip
          refine J_region ?_
          refine L_v rfl rfl rfl (V_move rfl rfl) ?_
          refine L_v rfl rfl rfl (V_indexArr rfl rfl rfl Try.underlying23 sz5 (by omega) (by omega) (by first | exact ix0 _ | exact ix1 _ _ | rfl)) ?_
          refine L_store1 0 rfl rfl rfl rfl rfl rfl rfl sz5 (by simp only [dg_length, mix_length]; omega) (dg_set _ _ _) ?_
          refine L_nil ?_
          change J _ _ _ _
          refine J_region ?_
          refine L_v rfl rfl rfl (V_add rfl rfl rfl (by first | exact Go.IntWalk.i64_in _ (by omega) | rfl)) ?_
          refine L_v rfl rfl rfl (V_move rfl rfl) ?_
          refine L_nil ?_
          exact ⟨k + 1, ⟨by omega, by omega⟩, by omega, ⟨rfl, rfl, rfl, rfl, trivial⟩, (by rw [← mix_step d n hk0 (by omega) (v := 0) (by unfold preB; rw [if_pos (by omega)])]; exact List.Sublist.refl _), fun f hf => hf, rfl⟩
        ·
          first | (have h4 := of_decide_eq_true h4) | (have h4 := of_decide_eq_false h4) | skip
          refine J_seq ?_
          refine J_region ?_
          refine L_v rfl rfl rfl (V_move rfl rfl) ?_
          refine L_v rfl rfl rfl (V_lss rfl rfl rfl (by first | exact decide_eq_true (by omega) | exact decide_eq_false (by omega) | rfl)) ?_
          refine L_v rfl rfl rfl (V_assign rfl rfl) ?_
          refine L_nil ?_
          change J _ _ _ _
          refine J_cond rfl (fun h5 => ?_) (fun h5 => ?_)
          ·
            first | (have h5 := of_decide_eq_true h5) | (have h5 := of_decide_eq_false h5) | skip
            refine J_regionT 7 rfl (by kernel_rfl) ?_
            refine LQ_v rfl rfl rfl (V_move rfl rfl) ?_
            refine LQ_v rfl rfl rfl (V_indexArr rfl rfl rfl Try.underlying23 sz5 (by omega) (by omega) (by first | exact ix0 _ | exact ix1 _ _ | rfl)) ?_
            refine LQ_v rfl rfl rfl (V_load1 0 rfl rfl rfl Try.underlying5 rfl (by first | rfl | exact dg_get (by omega) (by simp only [mix_length]; omega) | exact dg_get (by omega) (by omega))) ?_
            refine LQ_v rfl rfl rfl (V_move rfl rfl) ?_
            refine LQ_v rfl rfl rfl (V_shr rfl rfl rfl (by omega) rfl) ?_
            refine LQ_v rfl rfl rfl (V_andNot rfl rfl rfl rfl) ?_
            refine LQ_v rfl rfl rfl (V_indexArr rfl rfl rfl Try.underlying23 sz5 (by omega) (by omega) (by first | exact ix0 _ | exact ix1 _ _ | rfl)) ?_
            refine LQ_nil ?_
            refine L_store1 0 rfl rfl rfl rfl rfl rfl rfl sz5 (by simp only [dg_length, mix_length]; omega) (dg_set _ _ _) ?_
            refine L_nil ?_
            change J _ _ _ _
            refine J_region ?_
            refine L_v rfl rfl rfl (V_add rfl rfl rfl (by first | exact Go.IntWalk.i64_in _ (by omega) | rfl)) ?_
            refine L_v rfl rfl rfl (V_move rfl rfl) ?_
            refine L_nil ?_
            exact ⟨k + 1, ⟨by omega, by omega⟩, by omega, ⟨rfl, rfl, rfl, rfl, trivial⟩, (by rw [mix_step d n hk0 (by omega)]; exact List.Sublist.refl _; rw [nth_mix _ _ _ hk0 (by omega), if_neg (by omega)]; exact andNot_shr (hb.nth _) (by omega) (by omega)), fun f hf => hf, rfl⟩
          ·
            first | (have h5 := of_decide_eq_true h5) | (have h5 := of_decide_eq_false h5) | skip
            refine J_skip ?_
            change J _ _ _ _
            refine J_region ?_
            refine L_v rfl rfl rfl (V_add rfl rfl rfl (by first | exact Go.IntWalk.i64_in _ (by omega) | rfl)) ?_
            refine L_v rfl rfl rfl (V_move rfl rfl) ?_
            refine L_nil ?_
            exact ⟨k + 1, ⟨by omega, by omega⟩, by omega, ⟨rfl, rfl, rfl, rfl, trivial⟩, (by rw [← mix_skip d n hk0 (by omega) (by omega)]; exact List.Sublist.refl _), fun f hf => hf, rfl⟩
      ·
        first | (have h3 := of_decide_eq_true h3) | (have h3 := of_decide_eq_false h3) | skip
        refine J_exit ?_
        change J _ _ _ _
        refine J_seq ?_
        refine J_region ?_
        refine L_v rfl rfl rfl (V_loadW 0 rfl rfl rfl Try.underlying23 rfl (szd sz23 (by simp [dg_length, setBit_length, mix_length, zd_length, pre, withV_length, preV_length, *]))) ?_
        refine L_storeW 1 rfl rfl rfl rfl rfl rfl (szd sz23 (by simp [dg_length, setBit_length, mix_length, zd_length, pre, withV_length, preV_length, *])) (dg_one _) (by simp [dg_length, setBit_length, mix_length, zd_length, pre, withV_length, preV_length, *]) ?_
        refine L_v rfl rfl rfl (V_assign rfl rfl) ?_
        refine L_nil ?_
        change J _ _ _ _
        refine J_ret ?_
        change Kret _ _ _ Exit.ret _
        refine ret2 rfl rfl (RV_c 1 rfl rfl Try.underlying23 rfl (szd sz23 (by simp [dg_length, setBit_length, mix_length, zd_length, pre, withV_length, preV_length, *]))) (RV_t rfl) ?_
        obtain rfl : k = 32 := by omega
        exact fun w' h => ⟨by rw [preV_in d n (by omega) (by omega), preE_in n (by omega) (by omega)], h.fr⟩

theorem len8_w (x : Int) (w : World) (h0 : 0 ≤ x) (h1 : x < 256) :
    Calls Try.prog 26 #[.int .u8 x] w fun e w' => e = .returned (.int .i64 (8 - lz8 x)) ∧ Fr [] w w' := by
  refine calls_of (args := [.int .u8 x]) ([]) ([]) ([]) Try.func26 rfl rfl (okW0 _ _ _ _) ?_
  refine J_seq ?_
  refine J_region ?_
  refine L_v rfl rfl rfl (V_assign rfl rfl) ?_
  refine L_nil ?_
  change J _ _ _ _
  refine J_seq ?_
  refine J_region ?_
  refine L_v rfl rfl rfl (V_move rfl rfl) ?_
  refine L_v rfl rfl rfl (V_indexStr rfl rfl rfl Try.underlying9 h0 (len8_get x h0 h1 (by decide +kernel))) ?_
  refine L_v rfl rfl rfl (V_conv rfl rfl Try.underlying5 Try.underlying3 (by have := lz8_range x h0 h1; exact Go.IntWalk.i64_in _ (by omega))) ?_
  refine L_v rfl rfl rfl (V_assign rfl rfl) ?_
  refine L_nil ?_
  change J _ _ _ _
  refine J_ret ?_
  change Kret _ _ _ Exit.ret _
  refine ret1 rfl rfl (RV_t rfl) ?_
  exact fun w' h => ⟨rfl, h.fr⟩

theorem lz_w (x : Int) (w : World) (h0 : 0 ≤ x) (h1 : x < 256) :
    Calls Try.prog 24 #[.int .u8 x] w fun e w' => e = .returned (.int .i64 (lz8 x)) ∧ Fr [] w w' := by
  have hz := lz8_range x h0 h1
  refine calls_of (args := [.int .u8 x]) ([]) ([]) ([]) Try.func24 rfl rfl (okW0 _ _ _ _) ?_
  refine J_seq ?_
  refine J_region ?_
  refine L_v rfl rfl rfl (V_assign rfl rfl) ?_
  refine L_nil ?_
  change J _ _ _ _
  refine J_seq ?_
  refine J_region ?_
  refine L_v rfl rfl rfl (V_move rfl rfl) ?_
  refine L_callV rfl rfl rfl rfl rfl rfl tx26 (fun w _ => len8_w _ w h0 h1) ?_
  refine L_v rfl rfl rfl (V_sub rfl rfl rfl (by first | exact Go.IntWalk.i64_in _ (by omega) | rfl)) ?_
  refine L_v rfl rfl rfl (V_assign rfl rfl) ?_
  refine L_nil ?_
  change J _ _ _ _
  refine J_ret ?_
  change Kret _ _ _ Exit.ret _
  refine ret1 rfl rfl (RV_t rfl) ?_
  exact fun w' h => ⟨by rw [show 8 - (8 - lz8 x) = lz8 x by omega], h.fr⟩

theorem common_w (a b : List Int) (w : World) (ha : a.length = 32) (hb : b.length = 32) (hA : Byt a) (hB : Byt b) :
    Calls Try.prog 17 #[.agg (dg a).toArray, .agg (dg b).toArray] w fun e w' => e = .returned (.int .i64 (com a b)) ∧ Fr [] w w' := by
  refine calls_of (args := [.agg (dg a).toArray, .agg (dg b).toArray]) ([]) ([]) ([]) Try.func17 rfl rfl (okW0 _ _ _ _) ?_
  refine J_seq ?_
  refine J_region ?_
  refine L_box rfl rfl rfl rfl rfl (fun b0 => ?_)
  refine L_box rfl rfl rfl rfl rfl (fun b1 => ?_)
  refine L_v rfl rfl rfl (V_assign rfl rfl) ?_
  refine L_nil ?_
  change J _ _ _ _
  refine J_seq ?_
  refine J_seq ?_
  refine J_region ?_
  refine L_v rfl rfl rfl (V_move rfl rfl) ?_
  refine L_nil ?_
  change J _ _ _ _
  refine J_block ?_
  refine J_loop (X := Int) (fun k => { env := [(2, .pointer (some ⟨b0, 0, none⟩)), (3, .pointer (some ⟨b1, 0, none⟩)), (7, .int .i64 k)], mem := [(b0, row 23 (dg a)), (b1, row 23 (dg b))] }) (fun k => 0 ≤ k ∧ k ≤ 32 ∧ ∀ j : Int, 0 ≤ j → j < k → nth a j = nth b j) (fun k => (32 - k).toNat) 0 ⟨by omega, by omega, fun j h0 h1 => by omega⟩ ⟨⟨rfl, rfl, rfl, trivial⟩, List.Sublist.refl _, fun f hf => hf, rfl⟩ ?_
  rintro k ⟨hk0, hk1, hk⟩
  refine J_seq ?_
  refine J_region ?_
  refine L_v rfl rfl rfl (V_lss rfl rfl rfl (by first | exact decide_eq_true (by omega) | exact decide_eq_false (by omega) | rfl)) ?_
  refine L_nil ?_
  change J _ _ _ _
  refine J_seq ?_
  refine J_cond rfl (fun h1 => ?_) (fun h1 => ?_)
  ·
    first | (have h1 := of_decide_eq_true h1) | (have h1 := of_decide_eq_false h1) | skip
    refine J_skip ?_
    change J _ _ _ _
    refine J_seq ?_
    refine J_block ?_
    refine J_seq ?_
    refine J_region ?_
    refine L_v rfl rfl rfl (V_move rfl rfl) ?_
    refine L_v rfl rfl rfl (V_assign rfl rfl) ?_
    refine L_nil ?_
    change J _ _ _ _
    refine J_seq ?_
    refine J_regionQ rfl (by kernel_rfl) ?_
    refine LQ_v rfl rfl rfl (V_move rfl rfl) ?_
    refine LQ_v rfl rfl rfl (V_indexArr rfl rfl rfl Try.underlying23 sz5 (by omega) (by omega) (by first | exact ix0 _ | exact ix1 _ _ | rfl)) ?_
    refine LQ_v rfl rfl rfl (V_load1 0 rfl rfl rfl Try.underlying5 rfl (dg_get (by omega) (by omega))) ?_
    refine LQ_v rfl rfl rfl (V_move rfl rfl) ?_
    refine LQ_v rfl rfl rfl (V_indexArr rfl rfl rfl Try.underlying23 sz5 (by omega) (by omega) (by first | exact ix0 _ | exact ix1 _ _ | rfl)) ?_
    refine LQ_v rfl rfl rfl (V_load1 1 rfl rfl rfl Try.underlying5 rfl (dg_get (by omega) (by omega))) ?_
    refine LQ_v rfl rfl rfl (V_xor rfl rfl rfl rfl) ?_
    refine LQ_v rfl rfl rfl (V_assign rfl rfl) ?_
    refine LQ_nil ?_
    change J _ _ _ _
    refine J_seq ?_
    refine J_region ?_
    refine L_v rfl rfl rfl (V_move rfl rfl) ?_
    refine L_v rfl rfl rfl (V_neq rfl rfl rfl (by first | exact decide_eq_true (by omega) | exact decide_eq_false (by omega) | rfl)) ?_
    refine L_nil ?_
    change J _ _ _ _
    refine J_cond rfl (fun h2 => ?_) (fun h2 => ?_)
    ·
      first | (have h2 := of_decide_eq_true h2) | (have h2 := of_decide_eq_false h2) | skip
      refine J_seq ?_
      refine J_region ?_
      refine L_v rfl rfl rfl (V_move rfl rfl) ?_
      refine L_v rfl rfl rfl (V_mul rfl rfl rfl (by first | exact Go.IntWalk.i64_in _ (by omega) | rfl)) ?_
      refine L_v rfl rfl rfl (V_move rfl rfl) ?_
      refine L_callV rfl rfl rfl rfl rfl rfl tx24 (fun w _ => lz_w _ w (xor_range (hA.nth _) (hB.nth _)).1 (xor_range (hA.nth _) (hB.nth _)).2) ?_
      refine L_v rfl rfl rfl (V_add rfl rfl rfl (by have := lz8_range _ (xor_range (hA.nth k) (hB.nth k)).1 (xor_range (hA.nth k) (hB.nth k)).2; exact Go.IntWalk.i64_in _ (by omega))) ?_
      refine L_v rfl rfl rfl (V_assign rfl rfl) ?_
      refine L_nil ?_
      change J _ _ _ _
      refine J_ret ?_
      change Kret _ _ _ Exit.ret _
      refine ret1 rfl rfl (RV_t rfl) ?_
      exact fun w' h => ⟨by rw [com_byte hA hB hk0 (by omega) hk (by assumption)], h.fr⟩
    ·
      first | (have h2 := of_decide_eq_true h2) | (have h2 := of_decide_eq_false h2) | skip
      refine J_skip ?_
      change J _ _ _ _
      refine J_region ?_
      refine L_v rfl rfl rfl (V_add rfl rfl rfl (by first | exact Go.IntWalk.i64_in _ (by omega) | rfl)) ?_
      refine L_v rfl rfl rfl (V_move rfl rfl) ?_
      refine L_nil ?_
      have hxy := (xor_zero (hA.nth k) (hB.nth k)).1 (Classical.not_not.1 h2)
      exact ⟨k + 1, ⟨by omega, by omega, fun j g0 g1 => (by by_cases e : j = k; (rw [e]; exact hxy); exact hk j g0 (by omega))⟩, by omega, ⟨rfl, rfl, rfl, trivial⟩, List.Sublist.refl _, fun f hf => hf, rfl⟩
  ·
    first | (have h1 := of_decide_eq_true h1) | (have h1 := of_decide_eq_false h1) | skip
    refine J_exit ?_
    change J _ _ _ _
    refine J_seq ?_
    refine J_region ?_
    refine L_v rfl rfl rfl (V_assign rfl rfl) ?_
    refine L_nil ?_
    change J _ _ _ _
    refine J_ret ?_
    change Kret _ _ _ Exit.ret _
    refine ret1 rfl rfl (RV_t rfl) ?_
    have := com_all (a := a) (b := b) (fun j g0 g1 => hk j g0 (by omega))
    exact fun w' h => ⟨by rw [this], h.fr⟩

theorem ext27 : ∃ e, Extern.find Try.f27 = some e ∧ ∀ (u v : Value) (a b : List Int) (w : World), SlB w u a → SlB w v b → (e [u, v].toArray).run Try.prog w = .ok (.int .i64 (cmpB a b)) w :=
  ⟨Extern.BytealgCompare.compare, by kernel_rfl, fun u v a b w hu hv => by
    show (do pure (goInt (Extern.BytealgCompare.cmp (← Extern.Bytes.bytesOf u) (← Extern.Bytes.bytesOf v))) : Sem Value).run Try.prog w = _
    simp only [Sem.run_bind, run_bytesOf hu, run_bytesOf hv, Result.andThen_ok]
    rfl⟩
theorem bcmp_w (u v : Value) (a b : List Int) (w : World) (hu : SlB w u a) (hv : SlB w v b) :
    Calls Try.prog 25 #[u, v] w fun e w' => e = .returned (.int .i64 (cmpB a b)) ∧ Fr [] w w' := by
  obtain ⟨ex, hex, hrun⟩ := ext27
  refine calls_of (args := [u, v]) ([]) ([]) ([factB u a, factB v b]) Try.func25 rfl rfl (okW_facts2 hu hv) ?_
  refine J_seq ?_
  refine J_region ?_
  refine L_v rfl rfl rfl (V_assign rfl rfl) ?_
  refine L_nil ?_
  change J _ _ _ _
  refine J_seq ?_
  refine J_region ?_
  refine L_v rfl rfl rfl (V_move rfl rfl) ?_
  refine L_v rfl rfl rfl (V_move rfl rfl) ?_
  refine L_v rfl rfl rfl (V_callX rfl rfl rfl Try.func27 (by kernel_rfl) rfl (by kernel_rfl) hex (fun w' hw => hrun u v a b w' (hw.facts (factB u a) (List.Mem.head _)).1 (hw.facts (factB v b) (List.Mem.tail _ (List.Mem.head _))).1)) ?_
  refine L_v rfl rfl rfl (V_assign rfl rfl) ?_
  refine L_nil ?_
  change J _ _ _ _
  refine J_ret ?_
  change Kret _ _ _ Exit.ret _
  refine ret1 rfl rfl (RV_t rfl) ?_
  exact fun w' h => ⟨rfl, h.fr⟩

theorem less_w (a b : List Int) (w : World) (ha : a.length = 32) (hb : b.length = 32) (hA : Byt a) (hB : Byt b) :
    Calls Try.prog 19 #[.agg (dg a).toArray, .agg (dg b).toArray] w fun e w' => e = .returned (.bool (lessB a b)) ∧ Fr [] w w' := by
  refine calls_of (args := [.agg (dg a).toArray, .agg (dg b).toArray]) ([]) ([]) ([]) Try.func19 rfl rfl (okW0 _ _ _ _) ?_
  refine J_seq ?_
  refine J_region ?_
  refine L_box rfl rfl rfl rfl rfl (fun b0 => ?_)
  refine L_box rfl rfl rfl rfl rfl (fun b1 => ?_)
  refine L_v rfl rfl rfl (V_assign rfl rfl) ?_
  refine L_nil ?_
  change J _ _ _ _
  refine J_seq ?_
  refine J_regionQ rfl (by kernel_rfl) ?_
  refine LQ_v rfl rfl rfl (V_loadW 0 rfl rfl rfl Try.underlying23 rfl (szd sz23 (by simp [dg_length, setBit_length, mix_length, zd_length, pre, withV_length, preV_length, *]))) ?_
  refine LQ_v rfl rfl rfl (V_loadW 1 rfl rfl rfl Try.underlying23 rfl (szd sz23 (by simp [dg_length, setBit_length, mix_length, zd_length, pre, withV_length, preV_length, *]))) ?_
  refine LQ_v rfl rfl rfl (V_neD rfl rfl rfl eg23 Try.underlying23 Try.underlying5 sz5 (by simp [dg_length, setBit_length, mix_length, zd_length, pre, withV_length, preV_length, *]) (by simp [dg_length, setBit_length, mix_length, zd_length, pre, withV_length, preV_length, *]) rfl) ?_
  refine LQ_v rfl rfl rfl (V_move rfl rfl) ?_
  refine LQ_split 8 rfl (fun h1 => ?_) (fun h1 => ?_)
  ·
    first | (have h1 := of_decide_eq_true h1) | (have h1 := of_decide_eq_false h1) | skip
    refine LQ_wv rfl rfl rfl rfl rfl rfl (V_sliceArr rfl rfl Try.underlying23 sz5) ?_
    refine LQ_wv rfl rfl rfl rfl rfl rfl (V_sliceArr rfl rfl Try.underlying23 sz5) ?_
    refine LQ_wcallV rfl rfl rfl rfl rfl rfl rfl rfl rfl tx25 (fun w hw => bcmp_w _ _ _ _ w (SlB.of_mem' hw (i := 0) rfl ha 32) (SlB.of_mem' hw (i := 1) rfl hb 32)) ?_
    refine LQ_wv rfl rfl rfl rfl rfl rfl (V_lss rfl rfl rfl (by first | exact decide_eq_true (by omega) | exact decide_eq_false (by omega) | rfl)) ?_
    first | refine LQ_v rfl rfl rfl (V_pickT rfl rfl rfl) ?_ | refine LQ_v rfl rfl rfl (V_pickF rfl rfl rfl) ?_
    refine LQ_v rfl rfl rfl (V_assign rfl rfl) ?_
    refine LQ_nil ?_
    change J _ _ _ _
    refine J_ret ?_
    change Kret _ _ _ Exit.ret _
    refine ret1 rfl rfl (RV_t rfl) ?_
    exact fun w' h => ⟨by rw [show (decide (cmpB a b < 0)) = lessB a b by rw [Bool.eq_iff_iff, decide_eq_true_eq]; exact cmp_less ha hb hA hB], h.fr⟩
  ·
    first | (have h1 := of_decide_eq_true h1) | (have h1 := of_decide_eq_false h1) | skip
    refine LQ_skip rfl rfl rfl rfl rfl rfl rfl ?_
    refine LQ_skip rfl rfl rfl rfl rfl rfl rfl ?_
    refine LQ_skip rfl rfl rfl rfl rfl rfl rfl ?_
    refine LQ_skip rfl rfl rfl rfl rfl rfl rfl ?_
    first | refine LQ_v rfl rfl rfl (V_pickT rfl rfl rfl) ?_ | refine LQ_v rfl rfl rfl (V_pickF rfl rfl rfl) ?_
    refine LQ_v rfl rfl rfl (V_assign rfl rfl) ?_
    refine LQ_nil ?_
    change J _ _ _ _
    refine J_ret ?_
    change Kret _ _ _ Exit.ret _
    refine ret1 rfl rfl (RV_t rfl) ?_
    exact fun w' h => ⟨by rw [less_self (show a = b by simpa using h1)], h.fr⟩

theorem weight_w (i : Int) (w : World) (h0 : 0 ≤ i) :
    Calls Try.prog 23 #[.int .i64 i] w fun e w' => e = .returned (.int .i64 (wt i)) ∧ Fr [] w w' := by
  refine calls_of (args := [.int .i64 i]) ([]) ([]) ([]) Try.func23 rfl rfl (okW0 _ _ _ _) ?_
  refine J_seq ?_
  refine J_region ?_
  refine L_v rfl rfl rfl (V_assign rfl rfl) ?_
  refine L_nil ?_
  change J _ _ _ _
  refine J_seq ?_
  refine J_region ?_
  refine L_v rfl rfl rfl (V_assign rfl rfl) ?_
  refine L_nil ?_
  change J _ _ _ _
  refine J_seq ?_
  refine J_seq ?_
  refine J_region ?_
  refine L_v rfl rfl rfl (V_assign rfl rfl) ?_
  refine L_nil ?_
  change J _ _ _ _
  refine J_block ?_
  refine J_loop (X := Int) (fun k => { env := [(0, .int .i64 i), (3, .int .i64 (128 / 2 ^ k.toNat)), (4, .int .i64 k)] }) (fun k => 0 ≤ k ∧ k ≤ i % 8) (fun k => (8 - k).toNat) 0 ⟨by omega, by omega⟩ ⟨⟨rfl, rfl, rfl, trivial⟩, List.Sublist.refl _, fun f hf => hf, rfl⟩ ?_
  rintro k ⟨hk0, hk1⟩
  refine J_seq ?_
  refine J_seq ?_
  refine J_region ?_
  refine L_v rfl rfl rfl (V_move rfl rfl) ?_
  refine L_v rfl rfl rfl (V_move rfl rfl) ?_
  refine L_v rfl rfl rfl (V_rem rfl rfl rfl (by omega) (by first | exact r64 (by omega) | rfl)) ?_
  refine L_v rfl rfl rfl (V_lss rfl rfl rfl (by first | exact decide_eq_true (by omega) | exact decide_eq_false (by omega) | rfl)) ?_
  refine L_nil ?_
  change J _ _ _ _
  refine J_cond rfl (fun h1 => ?_) (fun h1 => ?_)
  ·
    first | (have h1 := of_decide_eq_true h1) | (have h1 := of_decide_eq_false h1) | skip
    refine J_skip ?_
    change J _ _ _ _
    refine J_seq ?_
    refine J_block ?_
    refine J_region ?_
    refine L_v rfl rfl rfl (V_move rfl rfl) ?_
    refine L_v rfl rfl rfl (V_quo rfl rfl rfl (by omega) (q64 (wt_bd k hk0).1 (wt_bd k hk0).2 (by omega))) ?_
    refine L_v rfl rfl rfl (V_assign rfl rfl) ?_
    refine L_nil ?_
    change J _ _ _ _
    refine J_region ?_
    refine L_v rfl rfl rfl (V_move rfl rfl) ?_
    refine L_v rfl rfl rfl (V_add rfl rfl rfl (by first | exact Go.IntWalk.i64_in _ (by omega) | rfl)) ?_
    refine L_v rfl rfl rfl (V_assign rfl rfl) ?_
    refine L_nil ?_
    exact ⟨k + 1, ⟨by omega, by omega⟩, by omega, ⟨rfl, by rw [wt_half k hk0]; rfl, rfl, trivial⟩, List.Sublist.refl _, fun f hf => hf, rfl⟩
  ·
    first | (have h1 := of_decide_eq_true h1) | (have h1 := of_decide_eq_false h1) | skip
    refine J_exit ?_
    change J _ _ _ _
    refine J_seq ?_
    refine J_region ?_
    refine L_v rfl rfl rfl (V_move rfl rfl) ?_
    refine L_v rfl rfl rfl (V_assign rfl rfl) ?_
    refine L_nil ?_
    change J _ _ _ _
    refine J_ret ?_
    change Kret _ _ _ Exit.ret _
    refine ret1 rfl rfl (RV_t rfl) ?_
    obtain rfl : k = i % 8 := by omega
    exact fun w' h => ⟨by rw [wt_last i], h.fr⟩

theorem at_w (d : List Int) (i : Int) (w : World) (hl : d.length = 32) (hb : Byt d) (h0 : 0 ≤ i) (h1 : i < 256) :
    Calls Try.prog 16 #[.agg (dg d).toArray, .int .i64 i] w fun e w' => e = .returned (.int .i64 (bitOf d i)) ∧ Fr [] w w' := by
  have hn := hb.nth (i / 8)
  have hw := wt_pos i
  refine calls_of (args := [.agg (dg d).toArray, .int .i64 i]) ([]) ([]) ([]) Try.func16 rfl rfl (okW0 _ _ _ _) ?_
  refine J_seq ?_
  refine J_region ?_
  refine L_box rfl rfl rfl rfl rfl (fun b0 => ?_)
  refine L_v rfl rfl rfl (V_assign rfl rfl) ?_
  refine L_nil ?_
  change J _ _ _ _
  refine J_seq ?_
  refine J_regionQ rfl (by kernel_rfl) ?_
  refine LQ_v rfl rfl rfl (V_move rfl rfl) ?_
  refine LQ_v rfl rfl rfl (V_quo rfl rfl rfl (by omega) (by first | exact q64 (by omega) (by omega) (by omega) | rfl)) ?_
  refine LQ_v rfl rfl rfl (V_indexArr rfl rfl rfl Try.underlying23 sz5 (by omega) (by omega) (by first | exact ix0 _ | exact ix1 _ _ | rfl)) ?_
  refine LQ_v rfl rfl rfl (V_load1 0 rfl rfl rfl Try.underlying5 rfl (by first | rfl | exact dg_get (by omega) (by simp only [mix_length]; omega) | exact dg_get (by omega) (by omega))) ?_
  refine LQ_v rfl rfl rfl (V_conv rfl rfl Try.underlying5 Try.underlying3 (by first | exact Go.IntWalk.i64_in _ (by omega) | rfl)) ?_
  refine LQ_v rfl rfl rfl (V_move rfl rfl) ?_
  refine LQ_callV rfl rfl rfl rfl rfl rfl tx23 (fun w _ => weight_w _ w (by omega)) ?_
  refine LQ_v rfl rfl rfl (V_quo rfl rfl rfl (by omega) (by first | exact q64 (by omega) (by omega) (by omega) | rfl)) ?_
  refine LQ_v rfl rfl rfl (V_rem rfl rfl rfl (by omega) (r64 (Int.ediv_nonneg hn.1 (by omega)))) ?_
  refine LQ_v rfl rfl rfl (V_assign rfl rfl) ?_
  refine LQ_nil ?_
  change J _ _ _ _
  refine J_ret ?_
  change Kret _ _ _ Exit.ret _
  refine ret1 rfl rfl (RV_t rfl) ?_
  exact fun w' h => ⟨rfl, h.fr⟩

theorem rbit_w (d : List Int) (i : Int) (w : World) (hl : d.length = 32) (hb : Byt d) :
    Calls Try.prog 10 #[.agg (dg d).toArray, .int .i64 i] w fun e w' => e = .returned (.tuple #[.int .i64 (bitV d i), .int .i64 (bitE i)]) ∧ Fr [] w w' := by
  refine calls_of (args := [.agg (dg d).toArray, .int .i64 i]) ([]) ([]) ([]) Try.func10 rfl rfl (okW0 _ _ _ _) ?_
  refine J_seq ?_
  refine J_region ?_
  refine L_box rfl rfl rfl rfl rfl (fun b0 => ?_)
  refine L_v rfl rfl rfl (V_assign rfl rfl) ?_
  refine L_v rfl rfl rfl (V_assign rfl rfl) ?_
  refine L_nil ?_
  change J _ _ _ _
  refine J_seq ?_
  refine J_seq ?_
  refine J_region ?_
  refine L_v rfl rfl rfl (V_move rfl rfl) ?_
  refine L_v rfl rfl rfl (V_lss rfl rfl rfl (by first | exact decide_eq_true (by omega) | exact decide_eq_false (by omega) | rfl)) ?_
  refine L_v rfl rfl rfl (V_move rfl rfl) ?_
  refine L_split 8 rfl (fun h1 => ?_) (fun h1 => ?_)
  ·
    first | (have h1 := of_decide_eq_true h1) | (have h1 := of_decide_eq_false h1) | skip
    refine L_skip rfl rfl rfl rfl rfl rfl rfl ?_
    refine L_skip rfl rfl rfl rfl rfl rfl rfl ?_
    first | refine L_v rfl rfl rfl (V_pickT rfl rfl rfl) ?_ | refine L_v rfl rfl rfl (V_pickF rfl rfl rfl) ?_
    refine L_nil ?_
    change J _ _ _ _
    refine J_true rfl ?_
    refine J_seq ?_
    refine J_region ?_
    refine L_v rfl rfl rfl (V_assign rfl rfl) ?_
    refine L_v rfl rfl rfl (V_assign rfl rfl) ?_
    refine L_nil ?_
    change J _ _ _ _
    refine J_ret ?_
    change Kret _ _ _ Exit.ret _
    refine ret2 rfl rfl (RV_t rfl) (RV_t rfl) ?_
    exact fun w' h => ⟨by rw [bitV_out _ _ (by omega), bitE_out _ (by omega)], h.fr⟩
  ·
    first | (have h1 := of_decide_eq_true h1) | (have h1 := of_decide_eq_false h1) | skip
    refine L_wv rfl rfl rfl rfl rfl rfl (V_move rfl rfl) ?_
    refine L_wv rfl rfl rfl rfl rfl rfl (V_gtr rfl rfl rfl (by first | exact decide_eq_true (by omega) | exact decide_eq_false (by omega) | rfl)) ?_
    first | refine L_v rfl rfl rfl (V_pickT rfl rfl rfl) ?_ | refine L_v rfl rfl rfl (V_pickF rfl rfl rfl) ?_
    refine L_nil ?_
    change J _ _ _ _
    refine J_cond rfl (fun h2 => ?_) (fun h2 => ?_)
    ·
      first | (have h2 := of_decide_eq_true h2) | (have h2 := of_decide_eq_false h2) | skip
      refine J_seq ?_
      refine J_region ?_
      refine L_v rfl rfl rfl (V_assign rfl rfl) ?_
      refine L_v rfl rfl rfl (V_assign rfl rfl) ?_
      refine L_nil ?_
      change J _ _ _ _
      refine J_ret ?_
      change Kret _ _ _ Exit.ret _
      refine ret2 rfl rfl (RV_t rfl) (RV_t rfl) ?_
      exact fun w' h => ⟨by rw [bitV_out _ _ (by omega), bitE_out _ (by omega)], h.fr⟩
    ·
      first | (have h2 := of_decide_eq_true h2) | (have h2 := of_decide_eq_false h2) | skip
      refine J_skip ?_
      change J _ _ _ _
      refine J_seq ?_
      refine J_region ?_
      refine L_v rfl rfl rfl (V_loadW 0 rfl rfl rfl Try.underlying23 rfl (szd sz23 (by simp [dg_length, setBit_length, mix_length, zd_length, pre, withV_length, preV_length, *]))) ?_
      refine L_v rfl rfl rfl (V_move rfl rfl) ?_
      refine L_callV rfl rfl rfl rfl rfl rfl tx16 (fun w _ => at_w _ _ w (by first | assumption | (simp [setBit_length, mix_length, zd_length, withV_length, preV_length, *]; done) | rfl) (by first | assumption | exact byt128 | exact byt129 | exact withV_byt (by assumption) _ _ | exact preV_byt (by assumption) _) (by omega) (by omega)) ?_
      refine L_v rfl rfl rfl (V_assign rfl rfl) ?_
      refine L_v rfl rfl rfl (V_assign rfl rfl) ?_
      refine L_nil ?_
      change J _ _ _ _
      refine J_ret ?_
      change Kret _ _ _ Exit.ret _
      refine ret2 rfl rfl (RV_t rfl) (RV_t rfl) ?_
      exact fun w' h => ⟨by rw [bitV, if_pos ⟨by omega, by omega⟩, bitE_in _ (by omega) (by omega)], h.fr⟩

theorem rwith_w (d : List Int) (i b : Int) (w : World) (hl : d.length = 32) (hb : Byt d) :
    Calls Try.prog 15 #[.agg (dg d).toArray, .int .i64 i, .int .i64 b] w fun e w' => e = .returned (.tuple #[.agg (dg (withV d i b)).toArray, .int .i64 (withE i b)]) ∧ Fr [] w w' := by
  have hn := hb.nth (i / 8)
  refine calls_of (args := [.agg (dg d).toArray, .int .i64 i, .int .i64 b]) ([]) ([]) ([]) Try.func15 rfl rfl (okW0 _ _ _ _) ?_
  refine J_seq ?_
  refine J_region ?_
  refine L_box rfl rfl rfl rfl rfl (fun b0 => ?_)
  refine L_alloc rfl rfl rfl rfl z23 (fun b1 => ?_)
  refine L_v rfl rfl rfl (V_assign rfl rfl) ?_
  refine L_nil ?_
  change J _ _ _ _
  refine J_seq ?_
  refine J_seq ?_
  refine J_region ?_
  refine L_v rfl rfl rfl (V_move rfl rfl) ?_
  refine L_v rfl rfl rfl (V_lss rfl rfl rfl (by first | exact decide_eq_true (by omega) | exact decide_eq_false (by omega) | rfl)) ?_
  refine L_v rfl rfl rfl (V_move rfl rfl) ?_
  refine L_split 10 rfl (fun h1 => ?_) (fun h1 => ?_)
  ·
    first | (have h1 := of_decide_eq_true h1) | (have h1 := of_decide_eq_false h1) | skip
    refine L_skip rfl rfl rfl rfl rfl rfl rfl ?_
    refine L_skip rfl rfl rfl rfl rfl rfl rfl ?_
    first | refine L_v rfl rfl rfl (V_pickT rfl rfl rfl) ?_ | refine L_v rfl rfl rfl (V_pickF rfl rfl rfl) ?_
    refine L_nil ?_
    change J _ _ _ _
    refine J_true rfl ?_
    refine J_seq ?_
    refine J_region ?_
    refine L_v rfl rfl rfl (V_build (vs := []) rfl rfl bd0) ?_
    refine L_storeW 1 rfl rfl rfl rfl rfl rfl (szd sz23 (by simp [dg_length, setBit_length, mix_length, zd_length, pre, withV_length, preV_length, *])) (dg_one _) (by simp [dg_length, setBit_length, mix_length, zd_length, pre, withV_length, preV_length, *]) ?_
    refine L_v rfl rfl rfl (V_assign rfl rfl) ?_
    refine L_nil ?_
    change J _ _ _ _
    refine J_ret ?_
    change Kret _ _ _ Exit.ret _
    refine ret2 rfl rfl (RV_c 1 rfl rfl Try.underlying23 rfl (szd sz23 (by simp [dg_length, setBit_length, mix_length, zd_length, pre, withV_length, preV_length, *]))) (RV_t rfl) ?_
    exact fun w' h => ⟨by rw [withV_out _ _ _ (by omega), withE_out _ _ (by omega)], h.fr⟩
  ·
    first | (have h1 := of_decide_eq_true h1) | (have h1 := of_decide_eq_false h1) | skip
    refine L_wv rfl rfl rfl rfl rfl rfl (V_move rfl rfl) ?_
    refine L_wv rfl rfl rfl rfl rfl rfl (V_gtr rfl rfl rfl (by first | exact decide_eq_true (by omega) | exact decide_eq_false (by omega) | rfl)) ?_
    first | refine L_v rfl rfl rfl (V_pickT rfl rfl rfl) ?_ | refine L_v rfl rfl rfl (V_pickF rfl rfl rfl) ?_
    refine L_nil ?_
    change J _ _ _ _
    refine J_cond rfl (fun h2 => ?_) (fun h2 => ?_)
    ·
      first | (have h2 := of_decide_eq_true h2) | (have h2 := of_decide_eq_false h2) | skip
      refine J_seq ?_
      refine J_region ?_
      refine L_v rfl rfl rfl (V_build (vs := []) rfl rfl bd0) ?_
      refine L_storeW 1 rfl rfl rfl rfl rfl rfl (szd sz23 (by simp [dg_length, setBit_length, mix_length, zd_length, pre, withV_length, preV_length, *])) (dg_one _) (by simp [dg_length, setBit_length, mix_length, zd_length, pre, withV_length, preV_length, *]) ?_
      refine L_v rfl rfl rfl (V_assign rfl rfl) ?_
      refine L_nil ?_
      change J _ _ _ _
      refine J_ret ?_
      change Kret _ _ _ Exit.ret _
      refine ret2 rfl rfl (RV_c 1 rfl rfl Try.underlying23 rfl (szd sz23 (by simp [dg_length, setBit_length, mix_length, zd_length, pre, withV_length, preV_length, *]))) (RV_t rfl) ?_
      exact fun w' h => ⟨by rw [withV_out _ _ _ (by omega), withE_out _ _ (by omega)], h.fr⟩
    ·
      first | (have h2 := of_decide_eq_true h2) | (have h2 := of_decide_eq_false h2) | skip
      refine J_skip ?_
      change J _ _ _ _
      refine J_seq ?_
      refine J_seq ?_
      refine J_region ?_
      refine L_v rfl rfl rfl (V_move rfl rfl) ?_
      refine L_v rfl rfl rfl (V_neq rfl rfl rfl (by first | exact decide_eq_true (by omega) | exact decide_eq_false (by omega) | rfl)) ?_
      refine L_v rfl rfl rfl (V_move rfl rfl) ?_
      refine L_split 17 rfl (fun h3 => ?_) (fun h3 => ?_)
      ·
        first | (have h3 := of_decide_eq_true h3) | (have h3 := of_decide_eq_false h3) | skip
        refine L_wv rfl rfl rfl rfl rfl rfl (V_move rfl rfl) ?_
        refine L_wv rfl rfl rfl rfl rfl rfl (V_neq rfl rfl rfl (by first | exact decide_eq_true (by omega) | exact decide_eq_false (by omega) | rfl)) ?_
        first | refine L_v rfl rfl rfl (V_pickT rfl rfl rfl) ?_ | refine L_v rfl rfl rfl (V_pickF rfl rfl rfl) ?_
        refine L_nil ?_
        change J _ _ _ _
        refine J_cond rfl (fun h4 => ?_) (fun h4 => ?_)
        ·
          first | (have h4 := of_decide_eq_true h4) | (have h4 := of_decide_eq_false h4) | skip
          refine J_seq ?_
          refine J_region ?_
          refine L_v rfl rfl rfl (V_build (vs := []) rfl rfl bd0) ?_
          refine L_storeW 1 rfl rfl rfl rfl rfl rfl (szd sz23 (by simp [dg_length, setBit_length, mix_length, zd_length, pre, withV_length, preV_length, *])) (dg_one _) (by simp [dg_length, setBit_length, mix_length, zd_length, pre, withV_length, preV_length, *]) ?_
          refine L_v rfl rfl rfl (V_assign rfl rfl) ?_
          refine L_nil ?_
          change J _ _ _ _
          refine J_ret ?_
          change Kret _ _ _ Exit.ret _
          refine ret2 rfl rfl (RV_c 1 rfl rfl Try.underlying23 rfl (szd sz23 (by simp [dg_length, setBit_length, mix_length, zd_length, pre, withV_length, preV_length, *]))) (RV_t rfl) ?_
          exact fun w' h => ⟨by rw [withV_arg d i b (by omega) (by omega) (by omega), withE_arg i b (by omega) (by omega) (by omega)], h.fr⟩
        ·
          first | (have h4 := of_decide_eq_true h4) | (have h4 := of_decide_eq_false h4) | skip
          refine J_skip ?_
          change J _ _ _ _
          refine J_seq ?_
          refine J_regionT 18 rfl (by kernel_rfl) ?_
          refine LQ_v rfl rfl rfl (V_move rfl rfl) ?_
          refine LQ_v rfl rfl rfl (V_quo rfl rfl rfl (by omega) (by first | exact q64 (by omega) (by omega) (by omega) | rfl)) ?_
          refine LQ_v rfl rfl rfl (V_move rfl rfl) ?_
          refine LQ_v rfl rfl rfl (V_quo rfl rfl rfl (by omega) (by first | exact q64 (by omega) (by omega) (by omega) | rfl)) ?_
          refine LQ_v rfl rfl rfl (V_indexArr rfl rfl rfl Try.underlying23 sz5 (by omega) (by omega) (by first | exact ix0 _ | exact ix1 _ _ | rfl)) ?_
          refine LQ_v rfl rfl rfl (V_load1 0 rfl rfl rfl Try.underlying5 rfl (by first | rfl | exact dg_get (by omega) (by simp only [mix_length]; omega) | exact dg_get (by omega) (by omega))) ?_
          refine LQ_v rfl rfl rfl (V_conv rfl rfl Try.underlying5 Try.underlying3 (by first | exact Go.IntWalk.i64_in _ (by omega) | rfl)) ?_
          refine LQ_v rfl rfl rfl (V_move rfl rfl) ?_
          refine LQ_v rfl rfl rfl (V_loadW 0 rfl rfl rfl Try.underlying23 rfl (szd sz23 (by simp [dg_length, setBit_length, mix_length, zd_length, pre, withV_length, preV_length, *]))) ?_
          refine LQ_v rfl rfl rfl (V_move rfl rfl) ?_
          refine LQ_callV rfl rfl rfl rfl rfl rfl tx16 (fun w _ => at_w _ _ w (by first | assumption | (simp [setBit_length, mix_length, zd_length, withV_length, preV_length, *]; done) | rfl) (by first | assumption | exact byt128 | exact byt129 | exact withV_byt (by assumption) _ _ | exact preV_byt (by assumption) _) (by omega) (by omega)) ?_
          refine LQ_v rfl rfl rfl (V_sub rfl rfl rfl (by have := bitOf_two d i; exact Go.IntWalk.i64_in _ (by omega))) ?_
          refine LQ_v rfl rfl rfl (V_move rfl rfl) ?_
          refine LQ_callV rfl rfl rfl rfl rfl rfl tx23 (fun w _ => weight_w _ w (by omega)) ?_
          refine LQ_v rfl rfl rfl (V_mul rfl rfl rfl (Go.IntWalk.i64_in _ (setB_bd hb i b (by omega)).1)) ?_
          refine LQ_v rfl rfl rfl (V_add rfl rfl rfl (Go.IntWalk.i64_in _ (setB_bd hb i b (by omega)).2.1)) ?_
          refine LQ_v rfl rfl rfl (V_conv rfl rfl Try.underlying3 Try.underlying5 (Go.IntWalk.u8_in _ (setB_bd hb i b (by omega)).2.2)) ?_
          refine LQ_v rfl rfl rfl (V_indexArr rfl rfl rfl Try.underlying23 sz5 (by omega) (by omega) (by first | exact ix0 _ | exact ix1 _ _ | rfl)) ?_
          refine LQ_nil ?_
          refine L_store1 0 rfl rfl rfl rfl rfl rfl rfl sz5 (by simp only [dg_length, mix_length]; omega) (dg_set _ _ _) ?_
          refine L_nil ?_
          change J _ _ _ _
          refine J_seq ?_
          refine J_region ?_
          refine L_v rfl rfl rfl (V_loadW 0 rfl rfl rfl Try.underlying23 rfl (szd sz23 (by simp [dg_length, setBit_length, mix_length, zd_length, pre, withV_length, preV_length, *]))) ?_
          refine L_storeW 1 rfl rfl rfl rfl rfl rfl (szd sz23 (by simp [dg_length, setBit_length, mix_length, zd_length, pre, withV_length, preV_length, *])) (dg_one _) (by simp [dg_length, setBit_length, mix_length, zd_length, pre, withV_length, preV_length, *]) ?_
          refine L_v rfl rfl rfl (V_assign rfl rfl) ?_
          refine L_nil ?_
          change J _ _ _ _
          refine J_ret ?_
          change Kret _ _ _ Exit.ret _
          refine ret2 rfl rfl (RV_c 1 rfl rfl Try.underlying23 rfl (szd sz23 (by simp [dg_length, setBit_length, mix_length, zd_length, pre, withV_length, preV_length, *]))) (RV_t rfl) ?_
          exact fun w' h => ⟨by rw [withV_in d i b (by omega) (by omega) (by omega), withE_in i b (by omega) (by omega) (by omega), setBit], h.fr⟩
      ·
        first | (have h3 := of_decide_eq_true h3) | (have h3 := of_decide_eq_false h3) | skip
        refine L_skip rfl rfl rfl rfl rfl rfl rfl ?_
        refine L_skip rfl rfl rfl rfl rfl rfl rfl ?_
        first | refine L_v rfl rfl rfl (V_pickT rfl rfl rfl) ?_ | refine L_v rfl rfl rfl (V_pickF rfl rfl rfl) ?_
        refine L_nil ?_
        change J _ _ _ _
        refine J_false rfl ?_
        refine J_skip ?_
        change J _ _ _ _
        refine J_seq ?_
        refine J_regionT 18 rfl (by kernel_rfl) ?_
        refine LQ_v rfl rfl rfl (V_move rfl rfl) ?_
        refine LQ_v rfl rfl rfl (V_quo rfl rfl rfl (by omega) (by first | exact q64 (by omega) (by omega) (by omega) | rfl)) ?_
        refine LQ_v rfl rfl rfl (V_move rfl rfl) ?_
        refine LQ_v rfl rfl rfl (V_quo rfl rfl rfl (by omega) (by first | exact q64 (by omega) (by omega) (by omega) | rfl)) ?_
        refine LQ_v rfl rfl rfl (V_indexArr rfl rfl rfl Try.underlying23 sz5 (by omega) (by omega) (by first | exact ix0 _ | exact ix1 _ _ | rfl)) ?_
        refine LQ_v rfl rfl rfl (V_load1 0 rfl rfl rfl Try.underlying5 rfl (by first | rfl | exact dg_get (by omega) (by simp only [mix_length]; omega) | exact dg_get (by omega) (by omega))) ?_
        refine LQ_v rfl rfl rfl (V_conv rfl rfl Try.underlying5 Try.underlying3 (by first | exact Go.IntWalk.i64_in _ (by omega) | rfl)) ?_
        refine LQ_v rfl rfl rfl (V_move rfl rfl) ?_
        refine LQ_v rfl rfl rfl (V_loadW 0 rfl rfl rfl Try.underlying23 rfl (szd sz23 (by simp [dg_length, setBit_length, mix_length, zd_length, pre, withV_length, preV_length, *]))) ?_
        refine LQ_v rfl rfl rfl (V_move rfl rfl) ?_
        refine LQ_callV rfl rfl rfl rfl rfl rfl tx16 (fun w _ => at_w _ _ w (by first | assumption | (simp [setBit_length, mix_length, zd_length, withV_length, preV_length, *]; done) | rfl) (by first | assumption | exact byt128 | exact byt129 | exact withV_byt (by assumption) _ _ | exact preV_byt (by assumption) _) (by omega) (by omega)) ?_
        refine LQ_v rfl rfl rfl (V_sub rfl rfl rfl (by have := bitOf_two d i; exact Go.IntWalk.i64_in _ (by omega))) ?_
        refine LQ_v rfl rfl rfl (V_move rfl rfl) ?_
        refine LQ_callV rfl rfl rfl rfl rfl rfl tx23 (fun w _ => weight_w _ w (by omega)) ?_
        refine LQ_v rfl rfl rfl (V_mul rfl rfl rfl (Go.IntWalk.i64_in _ (setB_bd hb i b (by omega)).1)) ?_
        refine LQ_v rfl rfl rfl (V_add rfl rfl rfl (Go.IntWalk.i64_in _ (setB_bd hb i b (by omega)).2.1)) ?_
        refine LQ_v rfl rfl rfl (V_conv rfl rfl Try.underlying3 Try.underlying5 (Go.IntWalk.u8_in _ (setB_bd hb i b (by omega)).2.2)) ?_
        refine LQ_v rfl rfl rfl (V_indexArr rfl rfl rfl Try.underlying23 sz5 (by omega) (by omega) (by first | exact ix0 _ | exact ix1 _ _ | rfl)) ?_
        refine LQ_nil ?_
        refine L_store1 0 rfl rfl rfl rfl rfl rfl rfl sz5 (by simp only [dg_length, mix_length]; omega) (dg_set _ _ _) ?_
        refine L_nil ?_
        change J _ _ _ _
        refine J_seq ?_
        refine J_region ?_
        refine L_v rfl rfl rfl (V_loadW 0 rfl rfl rfl Try.underlying23 rfl (szd sz23 (by simp [dg_length, setBit_length, mix_length, zd_length, pre, withV_length, preV_length, *]))) ?_
        refine L_storeW 1 rfl rfl rfl rfl rfl rfl (szd sz23 (by simp [dg_length, setBit_length, mix_length, zd_length, pre, withV_length, preV_length, *])) (dg_one _) (by simp [dg_length, setBit_length, mix_length, zd_length, pre, withV_length, preV_length, *]) ?_
        refine L_v rfl rfl rfl (V_assign rfl rfl) ?_
        refine L_nil ?_
        change J _ _ _ _
        refine J_ret ?_
        change Kret _ _ _ Exit.ret _
        refine ret2 rfl rfl (RV_c 1 rfl rfl Try.underlying23 rfl (szd sz23 (by simp [dg_length, setBit_length, mix_length, zd_length, pre, withV_length, preV_length, *]))) (RV_t rfl) ?_
        exact fun w' h => ⟨by rw [withV_in d i b (by omega) (by omega) (by omega), withE_in i b (by omega) (by omega) (by omega), setBit], h.fr⟩

theorem rprefix_w (d : List Int) (n : Int) (w : World) (hl : d.length = 32) (hb : Byt d) :
    Calls Try.prog 13 #[.agg (dg d).toArray, .int .i64 n] w fun e w' => e = .returned (.tuple #[.agg (dg (preV d n)).toArray, .int .i64 (preE n)]) ∧ Fr [] w w' := by
  refine calls_of (args := [.agg (dg d).toArray, .int .i64 n]) ([]) ([]) ([]) Try.func13 rfl rfl (okW0 _ _ _ _) ?_
  refine J_seq ?_
  refine J_region ?_
  refine L_box rfl rfl rfl rfl rfl (fun b0 => ?_)
  refine L_alloc rfl rfl rfl rfl z23 (fun b1 => ?_)
  refine L_v rfl rfl rfl (V_assign rfl rfl) ?_
  refine L_nil ?_
  change J _ _ _ _
  refine J_seq ?_
  refine J_seq ?_
  refine J_region ?_
  refine L_v rfl rfl rfl (V_move rfl rfl) ?_
  refine L_v rfl rfl rfl (V_lss rfl rfl rfl (by first | exact decide_eq_true (by omega) | exact decide_eq_false (by omega) | rfl)) ?_
  refine L_v rfl rfl rfl (V_move rfl rfl) ?_
  refine L_split 11 rfl (fun h1 => ?_) (fun h1 => ?_)
  ·
    first | (have h1 := of_decide_eq_true h1) | (have h1 := of_decide_eq_false h1) | skip
    refine L_skip rfl rfl rfl rfl rfl rfl rfl ?_
    refine L_skip rfl rfl rfl rfl rfl rfl rfl ?_
    first | refine L_v rfl rfl rfl (V_pickT rfl rfl rfl) ?_ | refine L_v rfl rfl rfl (V_pickF rfl rfl rfl) ?_
    refine L_nil ?_
    change J _ _ _ _
    refine J_true rfl ?_
    refine J_seq ?_
    refine J_region ?_
    refine L_v rfl rfl rfl (V_build (vs := []) rfl rfl bd0) ?_
    refine L_storeW 1 rfl rfl rfl rfl rfl rfl (szd sz23 (by simp [dg_length, setBit_length, mix_length, zd_length, pre, withV_length, preV_length, *])) (dg_one _) (by simp [dg_length, setBit_length, mix_length, zd_length, pre, withV_length, preV_length, *]) ?_
    refine L_v rfl rfl rfl (V_assign rfl rfl) ?_
    refine L_nil ?_
    change J _ _ _ _
    refine J_ret ?_
    change Kret _ _ _ Exit.ret _
    refine ret2 rfl rfl (RV_c 1 rfl rfl Try.underlying23 rfl (szd sz23 (by simp [dg_length, setBit_length, mix_length, zd_length, pre, withV_length, preV_length, *]))) (RV_t rfl) ?_
    exact fun w' h => ⟨by rw [preV_out _ _ (by omega), preE_out _ (by omega)], h.fr⟩
  ·
    first | (have h1 := of_decide_eq_true h1) | (have h1 := of_decide_eq_false h1) | skip
    refine L_wv rfl rfl rfl rfl rfl rfl (V_move rfl rfl) ?_
    refine L_wv rfl rfl rfl rfl rfl rfl (V_gtr rfl rfl rfl (by first | exact decide_eq_true (by omega) | exact decide_eq_false (by omega) | rfl)) ?_
    first | refine L_v rfl rfl rfl (V_pickT rfl rfl rfl) ?_ | refine L_v rfl rfl rfl (V_pickF rfl rfl rfl) ?_
    refine L_nil ?_
    change J _ _ _ _
    refine J_cond rfl (fun h2 => ?_) (fun h2 => ?_)
    ·
      first | (have h2 := of_decide_eq_true h2) | (have h2 := of_decide_eq_false h2) | skip
      refine J_seq ?_
      refine J_region ?_
      refine L_v rfl rfl rfl (V_build (vs := []) rfl rfl bd0) ?_
      refine L_storeW 1 rfl rfl rfl rfl rfl rfl (szd sz23 (by simp [dg_length, setBit_length, mix_length, zd_length, pre, withV_length, preV_length, *])) (dg_one _) (by simp [dg_length, setBit_length, mix_length, zd_length, pre, withV_length, preV_length, *]) ?_
      refine L_v rfl rfl rfl (V_assign rfl rfl) ?_
      refine L_nil ?_
      change J _ _ _ _
      refine J_ret ?_
      change Kret _ _ _ Exit.ret _
      refine ret2 rfl rfl (RV_c 1 rfl rfl Try.underlying23 rfl (szd sz23 (by simp [dg_length, setBit_length, mix_length, zd_length, pre, withV_length, preV_length, *]))) (RV_t rfl) ?_
      exact fun w' h => ⟨by rw [preV_out _ _ (by omega), preE_out _ (by omega)], h.fr⟩
    ·
      first | (have h2 := of_decide_eq_true h2) | (have h2 := of_decide_eq_false h2) | skip
      refine J_skip ?_
      change J _ _ _ _
      refine J_seq ?_
      refine J_seq ?_
      refine J_region ?_
      refine L_v rfl rfl rfl (V_move rfl rfl) ?_
      refine L_v rfl rfl rfl (V_assign rfl rfl) ?_
      refine L_nil ?_
      change J _ _ _ _
      refine J_block ?_
      refine J_loop (X := Int × List Int) (fun x => { env := [(1, .int .i64 n), (2, .pointer (some ⟨b0, 0, none⟩)), (4, .pointer (some ⟨b1, 0, none⟩)), (6, .int .i64 x.1)], mem := [(b0, row 23 (dg x.2)), (b1, row 23 (dg zd))] }) (fun x => n ≤ x.1 ∧ x.1 ≤ 256 ∧ x.2.length = 32 ∧ Byt x.2 ∧ ∀ i : Int, 0 ≤ i → i < 256 → bitOf x.2 i = if n ≤ i ∧ i < x.1 then 0 else bitOf d i) (fun x => (256 - x.1).toNat) (n, d) ⟨by simp, by simp; omega, hl, hb, fun i h0 h1 => by rw [if_neg (by simp)]⟩ ⟨⟨rfl, rfl, rfl, rfl, trivial⟩, List.Sublist.refl _, fun f hf => hf, rfl⟩ ?_
      rintro ⟨k, c⟩ ⟨hk0, hk1, hc, hcb, hbits⟩
      simp only at hk0 hk1 hc hcb hbits ⊢
      refine J_seq ?_
      refine J_seq ?_
      refine J_region ?_
      refine L_v rfl rfl rfl (V_move rfl rfl) ?_
      refine L_v rfl rfl rfl (V_lss rfl rfl rfl (by first | exact decide_eq_true (by omega) | exact decide_eq_false (by omega) | rfl)) ?_
      refine L_nil ?_
      change J _ _ _ _
      refine J_cond rfl (fun h3 => ?_) (fun h3 => ?_)
      ·
        first | (have h3 := of_decide_eq_true h3) | (have h3 := of_decide_eq_false h3) | skip
        refine J_skip ?_
        change J _ _ _ _
        refine J_seq ?_
        refine J_block ?_
        refine J_seq ?_
        refine J_region ?_
        refine L_v rfl rfl rfl (V_loadW 0 rfl rfl rfl Try.underlying23 rfl (szd sz23 (by simp [dg_length, setBit_length, mix_length, zd_length, pre, withV_length, preV_length, *]))) ?_
        refine L_v rfl rfl rfl (V_move rfl rfl) ?_
        refine L_callV rfl rfl rfl rfl rfl rfl tx15 (fun w _ => rwith_w _ _ _ w (by first | assumption | (simp [setBit_length, mix_length, zd_length, withV_length, preV_length, *]; done) | rfl) (by first | assumption | exact byt128 | exact byt129 | exact withV_byt (by assumption) _ _ | exact preV_byt (by assumption) _)) ?_
        refine L_v rfl rfl rfl (V_move rfl rfl) ?_
        refine L_v rfl rfl rfl (V_extract rfl rfl rfl) ?_
        refine L_v rfl rfl rfl (V_extract rfl rfl rfl) ?_
        refine L_alloc rfl rfl rfl rfl z23 (fun b2 => ?_)
        refine L_storeW 2 rfl rfl rfl rfl rfl rfl (szd sz23 (by simp [dg_length, setBit_length, mix_length, zd_length, pre, withV_length, preV_length, *])) (dg_one _) (by simp [dg_length, setBit_length, mix_length, zd_length, pre, withV_length, preV_length, *]) ?_
        refine L_v rfl rfl rfl (V_assign rfl rfl) ?_
        refine L_nil ?_
        change J _ _ _ _
        refine J_region ?_
        refine L_v rfl rfl rfl (V_loadW 2 rfl rfl rfl Try.underlying23 rfl (szd sz23 (by simp [dg_length, setBit_length, mix_length, zd_length, pre, withV_length, preV_length, *]))) ?_
        refine L_storeW 0 rfl rfl rfl rfl rfl rfl (szd sz23 (by simp [dg_length, setBit_length, mix_length, zd_length, pre, withV_length, preV_length, *])) (dg_one _) (by simp [dg_length, setBit_length, mix_length, zd_length, pre, withV_length, preV_length, *]) ?_
        refine L_nil ?_
        change J _ _ _ _
        refine J_region ?_
        refine L_v rfl rfl rfl (V_move rfl rfl) ?_
        refine L_v rfl rfl rfl (V_add rfl rfl rfl (by first | exact Go.IntWalk.i64_in _ (by omega) | rfl)) ?_
        refine L_v rfl rfl rfl (V_assign rfl rfl) ?_
        refine L_nil ?_
        exact ⟨(k + 1, withV c k 0), ⟨by show n ≤ k + 1; omega, by show k + 1 ≤ 256; omega, withV_length hc _ _, withV_byt hcb _ _, rpre_step hc hcb (by omega) hk0 (by omega) hbits⟩, by show (256 - (k + 1)).toNat < (256 - k).toNat; omega, ⟨rfl, rfl, rfl, rfl, trivial⟩, List.Sublist.cons_cons _ (List.Sublist.cons_cons _ (List.Sublist.cons _ List.Sublist.slnil)), fun f hf => hf, rfl⟩
      ·
        first | (have h3 := of_decide_eq_true h3) | (have h3 := of_decide_eq_false h3) | skip
        refine J_exit ?_
        change J _ _ _ _
        refine J_seq ?_
        refine J_region ?_
        refine L_v rfl rfl rfl (V_loadW 0 rfl rfl rfl Try.underlying23 rfl (szd sz23 (by simp [dg_length, setBit_length, mix_length, zd_length, pre, withV_length, preV_length, *]))) ?_
        refine L_storeW 1 rfl rfl rfl rfl rfl rfl (szd sz23 (by simp [dg_length, setBit_length, mix_length, zd_length, pre, withV_length, preV_length, *])) (dg_one _) (by simp [dg_length, setBit_length, mix_length, zd_length, pre, withV_length, preV_length, *]) ?_
        refine L_v rfl rfl rfl (V_assign rfl rfl) ?_
        refine L_nil ?_
        change J _ _ _ _
        refine J_ret ?_
        change Kret _ _ _ Exit.ret _
        refine ret2 rfl rfl (RV_c 1 rfl rfl Try.underlying23 rfl (szd sz23 (by simp [dg_length, setBit_length, mix_length, zd_length, pre, withV_length, preV_length, *]))) (RV_t rfl) ?_
        obtain rfl : k = 256 := by omega
        have hcd := rpre_last hb hc hcb hbits
        exact fun w' h => ⟨by rw [preV_in d n (by omega) (by omega), preE_in n (by omega) (by omega), ← hcd], h.fr⟩

theorem rcommon_w (a b : List Int) (w : World) (ha : a.length = 32) (hb : b.length = 32) (hA : Byt a) (hB : Byt b) :
    Calls Try.prog 18 #[.agg (dg a).toArray, .agg (dg b).toArray] w fun e w' => e = .returned (.int .i64 (com a b)) ∧ Fr [] w w' := by
  refine calls_of (args := [.agg (dg a).toArray, .agg (dg b).toArray]) ([]) ([]) ([]) Try.func18 rfl rfl (okW0 _ _ _ _) ?_
  refine J_seq ?_
  refine J_region ?_
  refine L_box rfl rfl rfl rfl rfl (fun b0 => ?_)
  refine L_box rfl rfl rfl rfl rfl (fun b1 => ?_)
  refine L_v rfl rfl rfl (V_assign rfl rfl) ?_
  refine L_nil ?_
  change J _ _ _ _
  refine J_seq ?_
  refine J_region ?_
  refine L_v rfl rfl rfl (V_assign rfl rfl) ?_
  refine L_nil ?_
  change J _ _ _ _
  refine J_seq ?_
  refine J_block ?_
  refine J_loop (X := Int) (fun k => { env := [(2, .pointer (some ⟨b0, 0, none⟩)), (3, .pointer (some ⟨b1, 0, none⟩)), (5, .int .i64 k)], mem := [(b0, row 23 (dg a)), (b1, row 23 (dg b))] }) (fun k => 0 ≤ k ∧ k ≤ 256 ∧ ∀ j : Int, 0 ≤ j → j < k → bitOf a j = bitOf b j) (fun k => (256 - k).toNat) 0 ⟨by omega, by omega, fun j h0 h1 => by omega⟩ ⟨⟨rfl, rfl, rfl, trivial⟩, List.Sublist.refl _, fun f hf => hf, rfl⟩ ?_
  rintro k ⟨hk0, hk1, hk⟩
  refine J_seq ?_
  refine J_seq ?_
  refine J_regionQ rfl (by kernel_rfl) ?_
  refine LQ_v rfl rfl rfl (V_move rfl rfl) ?_
  refine LQ_v rfl rfl rfl (V_lss rfl rfl rfl (by first | exact decide_eq_true (by omega) | exact decide_eq_false (by omega) | rfl)) ?_
  refine LQ_v rfl rfl rfl (V_move rfl rfl) ?_
  refine LQ_split 8 rfl (fun h1 => ?_) (fun h1 => ?_)
  ·
    first | (have h1 := of_decide_eq_true h1) | (have h1 := of_decide_eq_false h1) | skip
    refine LQ_wv rfl rfl rfl rfl rfl rfl (V_loadW 0 rfl rfl rfl Try.underlying23 rfl (szd sz23 (by simp [dg_length, setBit_length, mix_length, zd_length, pre, withV_length, preV_length, *]))) ?_
    refine LQ_wv rfl rfl rfl rfl rfl rfl (V_move rfl rfl) ?_
    refine LQ_wcallV rfl rfl rfl rfl rfl rfl rfl rfl rfl tx16 (fun w _ => at_w _ _ w (by first | assumption | (simp [setBit_length, mix_length, zd_length, withV_length, preV_length, *]; done) | rfl) (by first | assumption | exact byt128 | exact byt129 | exact withV_byt (by assumption) _ _ | exact preV_byt (by assumption) _) (by omega) (by omega)) ?_
    refine LQ_wv rfl rfl rfl rfl rfl rfl (V_loadW 1 rfl rfl rfl Try.underlying23 rfl (szd sz23 (by simp [dg_length, setBit_length, mix_length, zd_length, pre, withV_length, preV_length, *]))) ?_
    refine LQ_wv rfl rfl rfl rfl rfl rfl (V_move rfl rfl) ?_
    refine LQ_wcallV rfl rfl rfl rfl rfl rfl rfl rfl rfl tx16 (fun w _ => at_w _ _ w (by first | assumption | (simp [setBit_length, mix_length, zd_length, withV_length, preV_length, *]; done) | rfl) (by first | assumption | exact byt128 | exact byt129 | exact withV_byt (by assumption) _ _ | exact preV_byt (by assumption) _) (by omega) (by omega)) ?_
    refine LQ_wv rfl rfl rfl rfl rfl rfl (V_eql rfl rfl rfl (by first | exact decide_eq_true (by omega) | exact decide_eq_false (by omega) | rfl)) ?_
    first | refine LQ_v rfl rfl rfl (V_pickT rfl rfl rfl) ?_ | refine LQ_v rfl rfl rfl (V_pickF rfl rfl rfl) ?_
    refine LQ_nil ?_
    change J _ _ _ _
    refine J_cond rfl (fun h2 => ?_) (fun h2 => ?_)
    ·
      first | (have h2 := of_decide_eq_true h2) | (have h2 := of_decide_eq_false h2) | skip
      refine J_skip ?_
      change J _ _ _ _
      refine J_block ?_
      refine J_region ?_
      refine L_v rfl rfl rfl (V_move rfl rfl) ?_
      refine L_v rfl rfl rfl (V_add rfl rfl rfl (by first | exact Go.IntWalk.i64_in _ (by omega) | rfl)) ?_
      refine L_v rfl rfl rfl (V_assign rfl rfl) ?_
      refine L_nil ?_
      exact ⟨k + 1, ⟨by omega, by omega, fun j g0 g1 => (by by_cases e : j = k; (rw [e]; assumption); exact hk j g0 (by omega))⟩, by omega, ⟨rfl, rfl, rfl, trivial⟩, List.Sublist.refl _, fun f hf => hf, rfl⟩
    ·
      first | (have h2 := of_decide_eq_true h2) | (have h2 := of_decide_eq_false h2) | skip
      refine J_exit ?_
      change J _ _ _ _
      refine J_seq ?_
      refine J_region ?_
      refine L_v rfl rfl rfl (V_move rfl rfl) ?_
      refine L_v rfl rfl rfl (V_assign rfl rfl) ?_
      refine L_nil ?_
      change J _ _ _ _
      refine J_ret ?_
      change Kret _ _ _ Exit.ret _
      refine ret1 rfl rfl (RV_t rfl) ?_
      exact fun w' h => ⟨by rw [← com_unique hk0 (by omega) hk (fun _ => by assumption)], h.fr⟩
  ·
    first | (have h1 := of_decide_eq_true h1) | (have h1 := of_decide_eq_false h1) | skip
    refine LQ_skip rfl rfl rfl rfl rfl rfl rfl ?_
    refine LQ_skip rfl rfl rfl rfl rfl rfl rfl ?_
    refine LQ_skip rfl rfl rfl rfl rfl rfl rfl ?_
    refine LQ_skip rfl rfl rfl rfl rfl rfl rfl ?_
    refine LQ_skip rfl rfl rfl rfl rfl rfl rfl ?_
    refine LQ_skip rfl rfl rfl rfl rfl rfl rfl ?_
    refine LQ_skip rfl rfl rfl rfl rfl rfl rfl ?_
    first | refine LQ_v rfl rfl rfl (V_pickT rfl rfl rfl) ?_ | refine LQ_v rfl rfl rfl (V_pickF rfl rfl rfl) ?_
    refine LQ_nil ?_
    change J _ _ _ _
    refine J_false rfl ?_
    refine J_exit ?_
    change J _ _ _ _
    refine J_seq ?_
    refine J_region ?_
    refine L_v rfl rfl rfl (V_move rfl rfl) ?_
    refine L_v rfl rfl rfl (V_assign rfl rfl) ?_
    refine L_nil ?_
    change J _ _ _ _
    refine J_ret ?_
    change Kret _ _ _ Exit.ret _
    refine ret1 rfl rfl (RV_t rfl) ?_
    exact fun w' h => ⟨by rw [← com_unique hk0 (by omega) hk (fun h => by omega)], h.fr⟩

theorem rless_w (a b : List Int) (w : World) (ha : a.length = 32) (hb : b.length = 32) (hA : Byt a) (hB : Byt b) :
    Calls Try.prog 20 #[.agg (dg a).toArray, .agg (dg b).toArray] w fun e w' => e = .returned (.bool (lessB a b)) ∧ Fr [] w w' := by
  obtain ⟨g0, g1, g2, g3⟩ := com_spec a b
  refine calls_of (args := [.agg (dg a).toArray, .agg (dg b).toArray]) ([]) ([]) ([]) Try.func20 rfl rfl (okW0 _ _ _ _) ?_
  refine J_seq ?_
  refine J_region ?_
  refine L_box rfl rfl rfl rfl rfl (fun b0 => ?_)
  refine L_box rfl rfl rfl rfl rfl (fun b1 => ?_)
  refine L_v rfl rfl rfl (V_assign rfl rfl) ?_
  refine L_nil ?_
  change J _ _ _ _
  refine J_seq ?_
  refine J_region ?_
  refine L_v rfl rfl rfl (V_loadW 0 rfl rfl rfl Try.underlying23 rfl (szd sz23 (by simp [dg_length, setBit_length, mix_length, zd_length, pre, withV_length, preV_length, *]))) ?_
  refine L_v rfl rfl rfl (V_loadW 1 rfl rfl rfl Try.underlying23 rfl (szd sz23 (by simp [dg_length, setBit_length, mix_length, zd_length, pre, withV_length, preV_length, *]))) ?_
  refine L_callV rfl rfl rfl rfl rfl rfl tx18 (fun w _ => rcommon_w _ _ w (by first | assumption | (simp [setBit_length, mix_length, zd_length, withV_length, preV_length, *]; done) | rfl) (by first | assumption | (simp [setBit_length, mix_length, zd_length, withV_length, preV_length, *]; done) | rfl) (by first | assumption | exact byt128 | exact byt129 | exact withV_byt (by assumption) _ _ | exact preV_byt (by assumption) _) (by first | assumption | exact byt128 | exact byt129 | exact withV_byt (by assumption) _ _ | exact preV_byt (by assumption) _)) ?_
  refine L_v rfl rfl rfl (V_assign rfl rfl) ?_
  refine L_nil ?_
  change J _ _ _ _
  refine J_seq ?_
  refine J_region ?_
  refine L_v rfl rfl rfl (V_move rfl rfl) ?_
  refine L_v rfl rfl rfl (V_lss rfl rfl rfl (by first | exact decide_eq_true (by omega) | exact decide_eq_false (by omega) | rfl)) ?_
  refine L_v rfl rfl rfl (V_move rfl rfl) ?_
  refine L_split 11 rfl (fun h1 => ?_) (fun h1 => ?_)
  ·
    first | (have h1 := of_decide_eq_true h1) | (have h1 := of_decide_eq_false h1) | skip
    refine L_wv rfl rfl rfl rfl rfl rfl (V_loadW 0 rfl rfl rfl Try.underlying23 rfl (szd sz23 (by simp [dg_length, setBit_length, mix_length, zd_length, pre, withV_length, preV_length, *]))) ?_
    refine L_wv rfl rfl rfl rfl rfl rfl (V_move rfl rfl) ?_
    refine L_wcallV rfl rfl rfl rfl rfl rfl rfl rfl rfl tx16 (fun w _ => at_w _ _ w (by first | assumption | (simp [setBit_length, mix_length, zd_length, withV_length, preV_length, *]; done) | rfl) (by first | assumption | exact byt128 | exact byt129 | exact withV_byt (by assumption) _ _ | exact preV_byt (by assumption) _) (by omega) (by omega)) ?_
    refine L_wv rfl rfl rfl rfl rfl rfl (V_eql rfl rfl rfl (by first | exact decide_eq_true (by omega) | exact decide_eq_false (by omega) | rfl)) ?_
    first | refine L_v rfl rfl rfl (V_pickT rfl rfl rfl) ?_ | refine L_v rfl rfl rfl (V_pickF rfl rfl rfl) ?_
    refine L_v rfl rfl rfl (V_assign rfl rfl) ?_
    refine L_nil ?_
    change J _ _ _ _
    refine J_ret ?_
    change Kret _ _ _ Exit.ret _
    refine ret1 rfl rfl (RV_t rfl) ?_
    exact fun w' h => ⟨by simp [lessB, h1], h.fr⟩
  ·
    first | (have h1 := of_decide_eq_true h1) | (have h1 := of_decide_eq_false h1) | skip
    refine L_skip rfl rfl rfl rfl rfl rfl rfl ?_
    refine L_skip rfl rfl rfl rfl rfl rfl rfl ?_
    refine L_skip rfl rfl rfl rfl rfl rfl rfl ?_
    refine L_skip rfl rfl rfl rfl rfl rfl rfl ?_
    first | refine L_v rfl rfl rfl (V_pickT rfl rfl rfl) ?_ | refine L_v rfl rfl rfl (V_pickF rfl rfl rfl) ?_
    refine L_v rfl rfl rfl (V_assign rfl rfl) ?_
    refine L_nil ?_
    change J _ _ _ _
    refine J_ret ?_
    change Kret _ _ _ Exit.ret _
    refine ret1 rfl rfl (RV_t rfl) ?_
    exact fun w' h => ⟨by simp [lessB]; omega, h.fr⟩

theorem bits_w (w : World) :
    Calls Try.prog 11 #[] w fun e w' => e = .returned (.bool true) ∧ Fr [] w w' := by
  refine calls_of (args := []) ([]) ([]) ([]) Try.func11 rfl rfl (okW0 _ _ _ _) ?_
  refine J_seq ?_
  refine J_region ?_
  refine L_v rfl rfl rfl (V_assign rfl rfl) ?_
  refine L_nil ?_
  change J _ _ _ _
  refine J_seq ?_
  refine J_region ?_
  refine L_v rfl rfl rfl (V_build (vs := [(0, .int .u8 128)]) rfl rfl bd128) ?_
  refine L_alloc rfl rfl rfl rfl z23 (fun b0 => ?_)
  refine L_storeW 0 rfl rfl rfl rfl rfl rfl (szd sz23 (by simp [dg_length, setBit_length, mix_length, zd_length, pre, withV_length, preV_length, *])) (dg_one _) (by simp [dg_length, setBit_length, mix_length, zd_length, pre, withV_length, preV_length, *]) ?_
  refine L_nil ?_
  change J _ _ _ _
  refine J_seq ?_
  refine J_region ?_
  refine L_v rfl rfl rfl (V_loadW 0 rfl rfl rfl Try.underlying23 rfl (szd sz23 (by simp [dg_length, setBit_length, mix_length, zd_length, pre, withV_length, preV_length, *]))) ?_
  refine L_callV rfl rfl rfl rfl rfl rfl tx9 (fun w _ => bit_w _ _ w (by first | assumption | (simp [setBit_length, mix_length, zd_length, withV_length, preV_length, *]; done) | rfl) (by first | assumption | exact byt128 | exact byt129 | exact withV_byt (by assumption) _ _ | exact preV_byt (by assumption) _)) ?_
  refine L_v rfl rfl rfl (V_move rfl rfl) ?_
  refine L_v rfl rfl rfl (V_extract rfl rfl rfl) ?_
  refine L_v rfl rfl rfl (V_extract rfl rfl rfl) ?_
  refine L_v rfl rfl rfl (V_assign rfl rfl) ?_
  refine L_v rfl rfl rfl (V_assign rfl rfl) ?_
  refine L_nil ?_
  change J _ _ _ _
  refine J_seq ?_
  refine J_region ?_
  refine L_v rfl rfl rfl (V_loadW 0 rfl rfl rfl Try.underlying23 rfl (szd sz23 (by simp [dg_length, setBit_length, mix_length, zd_length, pre, withV_length, preV_length, *]))) ?_
  refine L_callV rfl rfl rfl rfl rfl rfl tx9 (fun w _ => bit_w _ _ w (by first | assumption | (simp [setBit_length, mix_length, zd_length, withV_length, preV_length, *]; done) | rfl) (by first | assumption | exact byt128 | exact byt129 | exact withV_byt (by assumption) _ _ | exact preV_byt (by assumption) _)) ?_
  refine L_v rfl rfl rfl (V_move rfl rfl) ?_
  refine L_v rfl rfl rfl (V_extract rfl rfl rfl) ?_
  refine L_v rfl rfl rfl (V_extract rfl rfl rfl) ?_
  refine L_v rfl rfl rfl (V_assign rfl rfl) ?_
  refine L_v rfl rfl rfl (V_assign rfl rfl) ?_
  refine L_nil ?_
  change J _ _ _ _
  refine J_seq ?_
  refine J_region ?_
  refine L_v rfl rfl rfl (V_loadW 0 rfl rfl rfl Try.underlying23 rfl (szd sz23 (by simp [dg_length, setBit_length, mix_length, zd_length, pre, withV_length, preV_length, *]))) ?_
  refine L_callV rfl rfl rfl rfl rfl rfl tx9 (fun w _ => bit_w _ _ w (by first | assumption | (simp [setBit_length, mix_length, zd_length, withV_length, preV_length, *]; done) | rfl) (by first | assumption | exact byt128 | exact byt129 | exact withV_byt (by assumption) _ _ | exact preV_byt (by assumption) _)) ?_
  refine L_v rfl rfl rfl (V_move rfl rfl) ?_
  refine L_v rfl rfl rfl (V_extract rfl rfl rfl) ?_
  refine L_v rfl rfl rfl (V_extract rfl rfl rfl) ?_
  refine L_v rfl rfl rfl (V_assign rfl rfl) ?_
  refine L_v rfl rfl rfl (V_assign rfl rfl) ?_
  refine L_nil ?_
  change J _ _ _ _
  refine J_seq ?_
  refine J_region ?_
  refine L_v rfl rfl rfl (V_move rfl rfl) ?_
  refine L_v rfl rfl rfl (V_eql rfl rfl rfl (decide_eq_true (by decide))) ?_
  refine L_v rfl rfl rfl (V_move rfl rfl) ?_
  refine L_wv rfl rfl rfl rfl rfl rfl (V_move rfl rfl) ?_
  refine L_wv rfl rfl rfl rfl rfl rfl (V_eql rfl rfl rfl (decide_eq_true (by decide))) ?_
  first | refine L_v rfl rfl rfl (V_pickT rfl rfl rfl) ?_ | refine L_v rfl rfl rfl (V_pickF rfl rfl rfl) ?_
  refine L_v rfl rfl rfl (V_move rfl rfl) ?_
  refine L_wv rfl rfl rfl rfl rfl rfl (V_move rfl rfl) ?_
  refine L_wv rfl rfl rfl rfl rfl rfl (V_eql rfl rfl rfl (decide_eq_true (by decide))) ?_
  first | refine L_v rfl rfl rfl (V_pickT rfl rfl rfl) ?_ | refine L_v rfl rfl rfl (V_pickF rfl rfl rfl) ?_
  refine L_v rfl rfl rfl (V_move rfl rfl) ?_
  refine L_wv rfl rfl rfl rfl rfl rfl (V_move rfl rfl) ?_
  refine L_wv rfl rfl rfl rfl rfl rfl (V_eql rfl rfl rfl (decide_eq_true (by decide))) ?_
  first | refine L_v rfl rfl rfl (V_pickT rfl rfl rfl) ?_ | refine L_v rfl rfl rfl (V_pickF rfl rfl rfl) ?_
  refine L_v rfl rfl rfl (V_move rfl rfl) ?_
  refine L_wv rfl rfl rfl rfl rfl rfl (V_move rfl rfl) ?_
  refine L_wv rfl rfl rfl rfl rfl rfl (V_eql rfl rfl rfl (decide_eq_true (by decide))) ?_
  first | refine L_v rfl rfl rfl (V_pickT rfl rfl rfl) ?_ | refine L_v rfl rfl rfl (V_pickF rfl rfl rfl) ?_
  refine L_v rfl rfl rfl (V_assign rfl rfl) ?_
  refine L_nil ?_
  change J _ _ _ _
  refine J_ret ?_
  change Kret _ _ _ Exit.ret _
  refine ret1 rfl rfl (RV_t rfl) ?_
  exact fun w' h => ⟨rfl, h.fr⟩

theorem less_lt (w : World) : Calls Try.prog 19 #[.agg (dg (128 :: List.replicate 31 0)).toArray, .agg (dg (129 :: List.replicate 31 0)).toArray] w fun e w' => e = .returned (.bool true) ∧ Fr [] w w' := by
  have h := less_w (128 :: List.replicate 31 0) (129 :: List.replicate 31 0) w rfl rfl byt128 byt129
  rwa [show lessB (128 :: List.replicate 31 0) (129 :: List.replicate 31 0) = true by decide] at h
theorem less_gt (w : World) : Calls Try.prog 19 #[.agg (dg (129 :: List.replicate 31 0)).toArray, .agg (dg (128 :: List.replicate 31 0)).toArray] w fun e w' => e = .returned (.bool false) ∧ Fr [] w w' := by
  have h := less_w (129 :: List.replicate 31 0) (128 :: List.replicate 31 0) w rfl rfl byt129 byt128
  rwa [show lessB (129 :: List.replicate 31 0) (128 :: List.replicate 31 0) = false by decide] at h
theorem commons_w (w : World) :
    Calls Try.prog 14 #[] w fun e w' => e = .returned (.bool true) ∧ Fr [] w w' := by
  refine calls_of (args := []) ([]) ([]) ([]) Try.func14 rfl rfl (okW0 _ _ _ _) ?_
  refine J_seq ?_
  refine J_region ?_
  refine L_v rfl rfl rfl (V_assign rfl rfl) ?_
  refine L_nil ?_
  change J _ _ _ _
  refine J_seq ?_
  refine J_region ?_
  refine L_v rfl rfl rfl (V_build (vs := [(0, .int .u8 128)]) rfl rfl bd128) ?_
  refine L_alloc rfl rfl rfl rfl z23 (fun b0 => ?_)
  refine L_storeW 0 rfl rfl rfl rfl rfl rfl (szd sz23 (by simp [dg_length, setBit_length, mix_length, zd_length, pre, withV_length, preV_length, *])) (dg_one _) (by simp [dg_length, setBit_length, mix_length, zd_length, pre, withV_length, preV_length, *]) ?_
  refine L_nil ?_
  change J _ _ _ _
  refine J_seq ?_
  refine J_region ?_
  refine L_v rfl rfl rfl (V_build (vs := [(0, .int .u8 129)]) rfl rfl bd129) ?_
  refine L_alloc rfl rfl rfl rfl z23 (fun b1 => ?_)
  refine L_storeW 1 rfl rfl rfl rfl rfl rfl (szd sz23 (by simp [dg_length, setBit_length, mix_length, zd_length, pre, withV_length, preV_length, *])) (dg_one _) (by simp [dg_length, setBit_length, mix_length, zd_length, pre, withV_length, preV_length, *]) ?_
  refine L_nil ?_
  change J _ _ _ _
  refine J_seq ?_
  refine J_region ?_
  refine L_v rfl rfl rfl (V_loadW 1 rfl rfl rfl Try.underlying23 rfl (szd sz23 (by simp [dg_length, setBit_length, mix_length, zd_length, pre, withV_length, preV_length, *]))) ?_
  refine L_callV rfl rfl rfl rfl rfl rfl tx12 (fun w _ => prefix_w _ _ w (by first | assumption | (simp [setBit_length, mix_length, zd_length, withV_length, preV_length, *]; done) | rfl) (by first | assumption | exact byt128 | exact byt129 | exact withV_byt (by assumption) _ _ | exact preV_byt (by assumption) _)) ?_
  refine L_v rfl rfl rfl (V_move rfl rfl) ?_
  refine L_v rfl rfl rfl (V_extract rfl rfl rfl) ?_
  refine L_v rfl rfl rfl (V_extract rfl rfl rfl) ?_
  refine L_alloc rfl rfl rfl rfl z23 (fun b2 => ?_)
  refine L_storeW 2 rfl rfl rfl rfl rfl rfl (szd sz23 (by simp [dg_length, setBit_length, mix_length, zd_length, pre, withV_length, preV_length, *])) (dg_one _) (by simp [dg_length, setBit_length, mix_length, zd_length, pre, withV_length, preV_length, *]) ?_
  refine L_v rfl rfl rfl (V_assign rfl rfl) ?_
  refine L_nil ?_
  change J _ _ _ _
  refine J_seq ?_
  refine J_region ?_
  refine L_v rfl rfl rfl (V_loadW 0 rfl rfl rfl Try.underlying23 rfl (szd sz23 (by simp [dg_length, setBit_length, mix_length, zd_length, pre, withV_length, preV_length, *]))) ?_
  refine L_v rfl rfl rfl (V_loadW 1 rfl rfl rfl Try.underlying23 rfl (szd sz23 (by simp [dg_length, setBit_length, mix_length, zd_length, pre, withV_length, preV_length, *]))) ?_
  refine L_callV rfl rfl rfl rfl rfl rfl tx17 (fun w _ => common_w _ _ w (by first | assumption | (simp [setBit_length, mix_length, zd_length, withV_length, preV_length, *]; done) | rfl) (by first | assumption | (simp [setBit_length, mix_length, zd_length, withV_length, preV_length, *]; done) | rfl) (by first | assumption | exact byt128 | exact byt129 | exact withV_byt (by assumption) _ _ | exact preV_byt (by assumption) _) (by first | assumption | exact byt128 | exact byt129 | exact withV_byt (by assumption) _ _ | exact preV_byt (by assumption) _)) ?_
  refine L_v rfl rfl rfl (V_eql rfl rfl rfl (decide_eq_true (by decide))) ?_
  refine L_v rfl rfl rfl (V_move rfl rfl) ?_
  refine L_wv rfl rfl rfl rfl rfl rfl (V_loadW 2 rfl rfl rfl Try.underlying23 rfl (szd sz23 (by simp [dg_length, setBit_length, mix_length, zd_length, pre, withV_length, preV_length, *]))) ?_
  refine L_wv rfl rfl rfl rfl rfl rfl (V_loadW 0 rfl rfl rfl Try.underlying23 rfl (szd sz23 (by simp [dg_length, setBit_length, mix_length, zd_length, pre, withV_length, preV_length, *]))) ?_
  refine L_wv rfl rfl rfl rfl rfl rfl (V_eqD rfl rfl rfl eg23 Try.underlying23 Try.underlying5 sz5 (by simp [dg_length, setBit_length, mix_length, zd_length, pre, withV_length, preV_length, *]) (by simp [dg_length, setBit_length, mix_length, zd_length, pre, withV_length, preV_length, *]) (decide_eq_true (by decide))) ?_
  first | refine L_v rfl rfl rfl (V_pickT rfl rfl rfl) ?_ | refine L_v rfl rfl rfl (V_pickF rfl rfl rfl) ?_
  refine L_v rfl rfl rfl (V_move rfl rfl) ?_
  refine L_wv rfl rfl rfl rfl rfl rfl (V_move rfl rfl) ?_
  refine L_wv rfl rfl rfl rfl rfl rfl (V_eql rfl rfl rfl (decide_eq_true (by decide))) ?_
  first | refine L_v rfl rfl rfl (V_pickT rfl rfl rfl) ?_ | refine L_v rfl rfl rfl (V_pickF rfl rfl rfl) ?_
  refine L_v rfl rfl rfl (V_move rfl rfl) ?_
  refine L_wv rfl rfl rfl rfl rfl rfl (V_loadW 0 rfl rfl rfl Try.underlying23 rfl (szd sz23 (by simp [dg_length, setBit_length, mix_length, zd_length, pre, withV_length, preV_length, *]))) ?_
  refine L_wv rfl rfl rfl rfl rfl rfl (V_loadW 1 rfl rfl rfl Try.underlying23 rfl (szd sz23 (by simp [dg_length, setBit_length, mix_length, zd_length, pre, withV_length, preV_length, *]))) ?_
  refine L_wcallV rfl rfl rfl rfl rfl rfl rfl rfl rfl tx19 (fun w _ => less_lt w) ?_
  first | refine L_v rfl rfl rfl (V_pickT rfl rfl rfl) ?_ | refine L_v rfl rfl rfl (V_pickF rfl rfl rfl) ?_
  refine L_v rfl rfl rfl (V_move rfl rfl) ?_
  refine L_wv rfl rfl rfl rfl rfl rfl (V_loadW 1 rfl rfl rfl Try.underlying23 rfl (szd sz23 (by simp [dg_length, setBit_length, mix_length, zd_length, pre, withV_length, preV_length, *]))) ?_
  refine L_wv rfl rfl rfl rfl rfl rfl (V_loadW 0 rfl rfl rfl Try.underlying23 rfl (szd sz23 (by simp [dg_length, setBit_length, mix_length, zd_length, pre, withV_length, preV_length, *]))) ?_
  refine L_wcallV rfl rfl rfl rfl rfl rfl rfl rfl rfl tx19 (fun w _ => less_gt w) ?_
  refine L_wv rfl rfl rfl rfl rfl rfl (V_not rfl rfl rfl) ?_
  first | refine L_v rfl rfl rfl (V_pickT rfl rfl rfl) ?_ | refine L_v rfl rfl rfl (V_pickF rfl rfl rfl) ?_
  refine L_v rfl rfl rfl (V_assign rfl rfl) ?_
  refine L_nil ?_
  change J _ _ _ _
  refine J_ret ?_
  change Kret _ _ _ Exit.ret _
  refine ret1 rfl rfl (RV_t rfl) ?_
  exact fun w' h => ⟨rfl, h.fr⟩

theorem less_v (a b : List Int) (w : World) (ha : a.length = 32) (hb : b.length = 32) (hA : Byt a) (hB : Byt b) {r : Bool} (h : lessB a b = r) :
    Calls Try.prog 19 #[.agg (dg a).toArray, .agg (dg b).toArray] w fun e w' => e = .returned (.bool r) ∧ Fr [] w w' := by subst h; exact less_w a b w ha hb hA hB

end Go.Proofs.Ytokpnjbfbkphiaa
