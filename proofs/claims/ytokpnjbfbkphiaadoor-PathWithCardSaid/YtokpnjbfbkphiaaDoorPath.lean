/- What the functions of layer 4 come to. -/
import Derived.Test.YtokpnjbfbkphiaaDoorSx
import Derived.Test.YtokpnjbfbkphiaaDoorPathPure
import Derived.Test.YtokpnjbfbkphiaaDoorProg
set_option linter.unusedVariables false
set_option linter.unusedSimpArgs false
set_option maxRecDepth 100000
namespace Go.Proofs.YtokpnjbfbkphiaaDoor
open Go.Sx
theorem bd0 (w : World) : (Instr.build 23 ([] : List (Nat × Value)).toArray).run Tryd.prog w = .ok (.agg (dg zd).toArray) w := by kernel_rfl
theorem bd128 (w : World) : (Instr.build 23 [(0, .int .u8 128)].toArray).run Tryd.prog w = .ok (.agg (dg (128 :: List.replicate 31 0)).toArray) w := by kernel_rfl
theorem bd129 (w : World) : (Instr.build 23 [(0, .int .u8 129)].toArray).run Tryd.prog w = .ok (.agg (dg (129 :: List.replicate 31 0)).toArray) w := by kernel_rfl
theorem eg23 : Tryd.prog.eqGuardType Tryd.prog.depth 23 = false := by kernel_rfl
theorem szd {x : Option Nat} {n m : Nat} (h : x = some n) (e : m = n) : x = some m := by rw [h, e]
theorem sz5 : (Tryd.prog.info? 5).map (·.size) = some 1 := by kernel_rfl
theorem sz23 : (Tryd.prog.info? 23).map (·.size) = some 32 := by kernel_rfl
theorem tx9 : Txt Tryd.prog 9 := txt_of Tryd.func9 rfl (by kernel_rfl)
theorem tx10 : Txt Tryd.prog 10 := txt_of Tryd.func10 rfl (by kernel_rfl)
theorem tx11 : Txt Tryd.prog 11 := txt_of Tryd.func11 rfl (by kernel_rfl)
theorem tx12 : Txt Tryd.prog 12 := txt_of Tryd.func12 rfl (by kernel_rfl)
theorem z23 : (Tryd.prog.info? 23).bind (·.zero) = some (.agg (dg zd).toArray) := by kernel_rfl

theorem mask_w (i : Int) (w : World) (h0 : 0 ≤ i) (h1 : i < 256) :
    Calls Tryd.prog 9 #[.int .i64 i] w fun e w' => e = .returned (.int .u8 (wt i)) ∧ Fr [] w w' := by
  refine calls_of (args := [.int .i64 i]) ([]) ([]) ([]) Tryd.func9 rfl rfl (okW0 _ _ _ _) ?_
  refine J_seq ?_
  refine J_region ?_
  refine L_v rfl rfl rfl (V_assign rfl rfl) ?_
  refine L_nil ?_
  change J _ _ _ _
  refine J_seq ?_
  refine J_region ?_
  refine L_v rfl rfl rfl (V_move rfl rfl) ?_
  refine L_v rfl rfl rfl (V_rem rfl rfl rfl (by omega) (by first | exact r64 (by omega) | rfl)) ?_
  refine L_v rfl rfl rfl (V_sub rfl rfl rfl (by first | exact Go.IntWalk.i64_in _ (by omega) | rfl)) ?_
  refine L_v rfl rfl rfl (V_shl rfl rfl rfl (by omega) rfl) ?_
  refine L_v rfl rfl rfl (V_assign rfl rfl) ?_
  refine L_nil ?_
  change J _ _ _ _
  refine J_ret ?_
  change Kret _ _ _ Exit.ret _
  refine ret1 rfl rfl (RV_t rfl) ?_
  exact fun w' h => ⟨by rw [mask_eq i h0], h.fr⟩

theorem bit_w (d : List Int) (i : Int) (w : World) (hl : d.length = 32) (hb : Byt d) :
    Calls Tryd.prog 12 #[.agg (dg d).toArray, .int .i64 i] w fun e w' => e = .returned (.tuple #[.int .i64 (bitV d i), .int .i64 (bitE i)]) ∧ Fr [] w w' := by
  refine calls_of (args := [.agg (dg d).toArray, .int .i64 i]) ([]) ([]) ([]) Tryd.func12 rfl rfl (okW0 _ _ _ _) ?_
  refine J_seq ?_
  refine J_region ?_
  refine L_box rfl rfl rfl rfl rfl (fun b0 => ?_)
  refine L_v rfl rfl rfl (V_assign rfl rfl) ?_
  refine L_v rfl rfl rfl (V_assign rfl rfl) ?_
  refine L_nil ?_
  change J _ _ _ _
  refine J_seq ?_
  refine J_seq ?_
  refine J_region ?_
  refine L_v rfl rfl rfl (V_move rfl rfl) ?_
  refine L_v rfl rfl rfl (V_lss rfl rfl rfl (by first | exact decide_eq_true (by omega) | exact decide_eq_false (by omega) | rfl)) ?_
  refine L_v rfl rfl rfl (V_move rfl rfl) ?_
  refine L_split 8 rfl (fun h1 => ?_) (fun h1 => ?_)
  ·
    first | (have h1 := of_decide_eq_true h1) | (have h1 := of_decide_eq_false h1) | skip
    refine L_skip rfl rfl rfl rfl rfl rfl rfl ?_
    refine L_skip rfl rfl rfl rfl rfl rfl rfl ?_
    first | refine L_v rfl rfl rfl (V_pickT rfl rfl rfl) ?_ | refine L_v rfl rfl rfl (V_pickF rfl rfl rfl) ?_
    refine L_nil ?_
    change J _ _ _ _
    refine J_true rfl ?_
    refine J_seq ?_
    refine J_region ?_
    refine L_v rfl rfl rfl (V_assign rfl rfl) ?_
    refine L_v rfl rfl rfl (V_assign rfl rfl) ?_
    refine L_nil ?_
    change J _ _ _ _
    refine J_ret ?_
    change Kret _ _ _ Exit.ret _
    refine ret2 rfl rfl (RV_t rfl) (RV_t rfl) ?_
    exact fun w' h => ⟨by rw [bitV_out _ _ (by omega), bitE_out _ (by omega)], h.fr⟩
  ·
    first | (have h1 := of_decide_eq_true h1) | (have h1 := of_decide_eq_false h1) | skip
    refine L_wv rfl rfl rfl rfl rfl rfl (V_move rfl rfl) ?_
    refine L_wv rfl rfl rfl rfl rfl rfl (V_geq rfl rfl rfl (by first | exact decide_eq_true (by omega) | exact decide_eq_false (by omega) | rfl)) ?_
    first | refine L_v rfl rfl rfl (V_pickT rfl rfl rfl) ?_ | refine L_v rfl rfl rfl (V_pickF rfl rfl rfl) ?_
    refine L_nil ?_
    change J _ _ _ _
    refine J_cond rfl (fun h2 => ?_) (fun h2 => ?_)
    ·
      first | (have h2 := of_decide_eq_true h2) | (have h2 := of_decide_eq_false h2) | skip
      refine J_seq ?_
      refine J_region ?_
      refine L_v rfl rfl rfl (V_assign rfl rfl) ?_
      refine L_v rfl rfl rfl (V_assign rfl rfl) ?_
      refine L_nil ?_
      change J _ _ _ _
      refine J_ret ?_
      change Kret _ _ _ Exit.ret _
      refine ret2 rfl rfl (RV_t rfl) (RV_t rfl) ?_
      exact fun w' h => ⟨by rw [bitV_out _ _ (by omega), bitE_out _ (by omega)], h.fr⟩
    ·
      first | (have h2 := of_decide_eq_true h2) | (have h2 := of_decide_eq_false h2) | skip
      refine J_skip ?_
      change J _ _ _ _
      refine J_seq ?_
      refine J_seq ?_
      refine J_regionQ rfl (by kernel_rfl) ?_
      refine LQ_v rfl rfl rfl (V_move rfl rfl) ?_
      refine LQ_v rfl rfl rfl (V_quo rfl rfl rfl (by omega) (by first | exact q64 (by omega) (by omega) (by omega) | rfl)) ?_
      refine LQ_v rfl rfl rfl (V_indexArr rfl rfl rfl Tryd.underlying23 sz5 (by omega) (by omega) (by first | exact ix0 _ | exact ix1 _ _ | rfl)) ?_
      refine LQ_v rfl rfl rfl (V_load1 0 rfl rfl rfl Tryd.underlying5 rfl (by first | rfl | exact dg_get (by omega) (by simp only [mix_length]; omega) | exact dg_get (by omega) (by omega))) ?_
      refine LQ_v rfl rfl rfl (V_move rfl rfl) ?_
      refine LQ_callV rfl rfl rfl rfl rfl rfl tx9 (fun w _ => mask_w _ w (by omega) (by omega)) ?_
      refine LQ_v rfl rfl rfl (V_and rfl rfl rfl rfl) ?_
      refine LQ_v rfl rfl rfl (V_neq rfl rfl rfl (by first | exact decide_eq_true (by omega) | exact decide_eq_false (by omega) | rfl)) ?_
      refine LQ_nil ?_
      change J _ _ _ _
      refine J_cond rfl (fun h3 => ?_) (fun h3 => ?_)
      ·
        first | (have h3 := of_decide_eq_true h3) | (have h3 := of_decide_eq_false h3) | skip
        refine J_seq ?_
        refine J_region ?_
        refine L_v rfl rfl rfl (V_assign rfl rfl) ?_
        refine L_v rfl rfl rfl (V_assign rfl rfl) ?_
        refine L_nil ?_
        change J _ _ _ _
        refine J_ret ?_
        change Kret _ _ _ Exit.ret _
        refine ret2 rfl rfl (RV_t rfl) (RV_t rfl) ?_
        exact fun w' h => ⟨by rw [bitV_one d i hb (by omega) (by omega) (by assumption), bitE_in _ (by omega) (by omega)], h.fr⟩
      ·
        first | (have h3 := of_decide_eq_true h3) | (have h3 := of_decide_eq_false h3) | skip
        refine J_skip ?_
        change J _ _ _ _
        refine J_seq ?_
        refine J_region ?_
        refine L_v rfl rfl rfl (V_assign rfl rfl) ?_
        refine L_v rfl rfl rfl (V_assign rfl rfl) ?_
        refine L_nil ?_
        change J _ _ _ _
        refine J_ret ?_
        change Kret _ _ _ Exit.ret _
        refine ret2 rfl rfl (RV_t rfl) (RV_t rfl) ?_
        exact fun w' h => ⟨by rw [bitV_no d i hb (by omega) (by omega) (by assumption), bitE_in _ (by omega) (by omega)], h.fr⟩

theorem with_w (d : List Int) (i b : Int) (w : World) (hl : d.length = 32) (hb : Byt d) :
    Calls Tryd.prog 4 #[.agg (dg d).toArray, .int .i64 i, .int .i64 b] w fun e w' => e = .returned (.tuple #[.agg (dg (withV d i b)).toArray, .int .i64 (withE i b)]) ∧ Fr [] w w' := by
  refine calls_of (args := [.agg (dg d).toArray, .int .i64 i, .int .i64 b]) ([]) ([]) ([]) Tryd.func4 rfl rfl (okW0 _ _ _ _) ?_
  refine J_seq ?_
  refine J_region ?_
  refine L_box rfl rfl rfl rfl rfl (fun b0 => ?_)
  refine L_alloc rfl rfl rfl rfl z23 (fun b1 => ?_)
  refine L_v rfl rfl rfl (V_assign rfl rfl) ?_
  refine L_nil ?_
  change J _ _ _ _
  refine J_seq ?_
  refine J_block ?_
  refine J_seq ?_
  refine J_region ?_
  refine L_v rfl rfl rfl (V_move rfl rfl) ?_
  refine L_v rfl rfl rfl (V_lss rfl rfl rfl (by first | exact decide_eq_true (by omega) | exact decide_eq_false (by omega) | rfl)) ?_
  refine L_v rfl rfl rfl (V_move rfl rfl) ?_
  refine L_split 12 rfl (fun h1 => ?_) (fun h1 => ?_)
  ·
    first | (have h1 := of_decide_eq_true h1) | (have h1 := of_decide_eq_false h1) | skip
    refine L_skip rfl rfl rfl rfl rfl rfl rfl ?_
    refine L_skip rfl rfl rfl rfl rfl rfl rfl ?_
    first | refine L_v rfl rfl rfl (V_pickT rfl rfl rfl) ?_ | refine L_v rfl rfl rfl (V_pickF rfl rfl rfl) ?_
    refine L_v rfl rfl rfl (V_assign rfl rfl) ?_
    refine L_nil ?_
    change J _ _ _ _
    refine J_true rfl ?_
    refine J_seq ?_
    refine J_region ?_
    refine L_v rfl rfl rfl (V_build (vs := []) rfl rfl bd0) ?_
    refine L_storeW 1 rfl rfl rfl rfl rfl rfl (szd sz23 (by simp [dg_length, setBit_length, mix_length, zd_length, pre, withV_length, preV_length, *])) (dg_one _) (by simp [dg_length, setBit_length, mix_length, zd_length, pre, withV_length, preV_length, *]) ?_
    refine L_v rfl rfl rfl (V_assign rfl rfl) ?_
    refine L_nil ?_
    change J _ _ _ _
    refine J_ret ?_
    change Kret _ _ _ Exit.ret _
    refine ret2 rfl rfl (RV_c 1 rfl rfl Tryd.underlying23 rfl (szd sz23 (by simp [dg_length, setBit_length, mix_length, zd_length, pre, withV_length, preV_length, *]))) (RV_t rfl) ?_
    exact fun w' h => ⟨by rw [withV_out _ _ _ (by omega), withE_out _ _ (by omega)], h.fr⟩
  ·
    first | (have h1 := of_decide_eq_true h1) | (have h1 := of_decide_eq_false h1) | skip
    refine L_wv rfl rfl rfl rfl rfl rfl (V_move rfl rfl) ?_
    refine L_wv rfl rfl rfl rfl rfl rfl (V_geq rfl rfl rfl (by first | exact decide_eq_true (by omega) | exact decide_eq_false (by omega) | rfl)) ?_
    first | refine L_v rfl rfl rfl (V_pickT rfl rfl rfl) ?_ | refine L_v rfl rfl rfl (V_pickF rfl rfl rfl) ?_
    refine L_v rfl rfl rfl (V_assign rfl rfl) ?_
    refine L_nil ?_
    change J _ _ _ _
    refine J_cond rfl (fun h2 => ?_) (fun h2 => ?_)
    ·
      first | (have h2 := of_decide_eq_true h2) | (have h2 := of_decide_eq_false h2) | skip
      refine J_seq ?_
      refine J_region ?_
      refine L_v rfl rfl rfl (V_build (vs := []) rfl rfl bd0) ?_
      refine L_storeW 1 rfl rfl rfl rfl rfl rfl (szd sz23 (by simp [dg_length, setBit_length, mix_length, zd_length, pre, withV_length, preV_length, *])) (dg_one _) (by simp [dg_length, setBit_length, mix_length, zd_length, pre, withV_length, preV_length, *]) ?_
      refine L_v rfl rfl rfl (V_assign rfl rfl) ?_
      refine L_nil ?_
      change J _ _ _ _
      refine J_ret ?_
      change Kret _ _ _ Exit.ret _
      refine ret2 rfl rfl (RV_c 1 rfl rfl Tryd.underlying23 rfl (szd sz23 (by simp [dg_length, setBit_length, mix_length, zd_length, pre, withV_length, preV_length, *]))) (RV_t rfl) ?_
      exact fun w' h => ⟨by rw [withV_out _ _ _ (by omega), withE_out _ _ (by omega)], h.fr⟩
    ·
      first | (have h2 := of_decide_eq_true h2) | (have h2 := of_decide_eq_false h2) | skip
      refine J_seq ?_
      refine J_region ?_
      refine L_v rfl rfl rfl (V_move rfl rfl) ?_
      refine L_v rfl rfl rfl (V_eql rfl rfl rfl (by first | exact decide_eq_true (by omega) | exact decide_eq_false (by omega) | rfl)) ?_
      refine L_v rfl rfl rfl (V_assign rfl rfl) ?_
      refine L_nil ?_
      change J _ _ _ _
      refine J_cond rfl (fun h3 => ?_) (fun h3 => ?_)
      ·
        first | (have h3 := of_decide_eq_true h3) | (have h3 := of_decide_eq_false h3) | skip
        refine J_regionT 8 rfl (by kernel_rfl) ?_
        refine LQ_v rfl rfl rfl (V_move rfl rfl) ?_
        refine LQ_v rfl rfl rfl (V_quo rfl rfl rfl (by omega) (by first | exact q64 (by omega) (by omega) (by omega) | rfl)) ?_
        refine LQ_v rfl rfl rfl (V_indexArr rfl rfl rfl Tryd.underlying23 sz5 (by omega) (by omega) (by first | exact ix0 _ | exact ix1 _ _ | rfl)) ?_
        refine LQ_v rfl rfl rfl (V_load1 0 rfl rfl rfl Tryd.underlying5 rfl (by first | rfl | exact dg_get (by omega) (by simp only [mix_length]; omega) | exact dg_get (by omega) (by omega))) ?_
        refine LQ_v rfl rfl rfl (V_move rfl rfl) ?_
        refine LQ_callV rfl rfl rfl rfl rfl rfl tx9 (fun w _ => mask_w _ w (by omega) (by omega)) ?_
        refine LQ_v rfl rfl rfl (V_andNot rfl rfl rfl rfl) ?_
        refine LQ_v rfl rfl rfl (V_indexArr rfl rfl rfl Tryd.underlying23 sz5 (by omega) (by omega) (by first | exact ix0 _ | exact ix1 _ _ | rfl)) ?_
        refine LQ_nil ?_
        refine L_store1 0 rfl rfl rfl rfl rfl rfl rfl sz5 (by simp only [dg_length, mix_length]; omega) (dg_set _ _ _) ?_
        refine L_nil ?_
        change J _ _ _ _
        refine J_seq ?_
        refine J_region ?_
        refine L_v rfl rfl rfl (V_loadW 0 rfl rfl rfl Tryd.underlying23 rfl (szd sz23 (by simp [dg_length, setBit_length, mix_length, zd_length, pre, withV_length, preV_length, *]))) ?_
        refine L_storeW 1 rfl rfl rfl rfl rfl rfl (szd sz23 (by simp [dg_length, setBit_length, mix_length, zd_length, pre, withV_length, preV_length, *])) (dg_one _) (by simp [dg_length, setBit_length, mix_length, zd_length, pre, withV_length, preV_length, *]) ?_
        refine L_v rfl rfl rfl (V_assign rfl rfl) ?_
        refine L_nil ?_
        change J _ _ _ _
        refine J_ret ?_
        change Kret _ _ _ Exit.ret _
        refine ret2 rfl rfl (RV_c 1 rfl rfl Tryd.underlying23 rfl (szd sz23 (by simp [dg_length, setBit_length, mix_length, zd_length, pre, withV_length, preV_length, *]))) (RV_t rfl) ?_
        exact fun w' h => ⟨by rw [withV_in d i b (by omega) (by omega) (.inl (by omega)), withE_in i b (by omega) (by omega) (.inl (by omega)), andNot_wt hb, setBit, show b = 0 by omega], h.fr⟩
      ·
        first | (have h3 := of_decide_eq_true h3) | (have h3 := of_decide_eq_false h3) | skip
        refine J_seq ?_
        refine J_region ?_
        refine L_v rfl rfl rfl (V_move rfl rfl) ?_
        refine L_v rfl rfl rfl (V_eql rfl rfl rfl (by first | exact decide_eq_true (by omega) | exact decide_eq_false (by omega) | rfl)) ?_
        refine L_v rfl rfl rfl (V_assign rfl rfl) ?_
        refine L_nil ?_
        change J _ _ _ _
        refine J_cond rfl (fun h4 => ?_) (fun h4 => ?_)
        ·
          first | (have h4 := of_decide_eq_true h4) | (have h4 := of_decide_eq_false h4) | skip
          refine J_regionT 8 rfl (by kernel_rfl) ?_
          refine LQ_v rfl rfl rfl (V_move rfl rfl) ?_
          refine LQ_v rfl rfl rfl (V_quo rfl rfl rfl (by omega) (by first | exact q64 (by omega) (by omega) (by omega) | rfl)) ?_
          refine LQ_v rfl rfl rfl (V_indexArr rfl rfl rfl Tryd.underlying23 sz5 (by omega) (by omega) (by first | exact ix0 _ | exact ix1 _ _ | rfl)) ?_
          refine LQ_v rfl rfl rfl (V_load1 0 rfl rfl rfl Tryd.underlying5 rfl (by first | rfl | exact dg_get (by omega) (by simp only [mix_length]; omega) | exact dg_get (by omega) (by omega))) ?_
          refine LQ_v rfl rfl rfl (V_move rfl rfl) ?_
          refine LQ_callV rfl rfl rfl rfl rfl rfl tx9 (fun w _ => mask_w _ w (by omega) (by omega)) ?_
          refine LQ_v rfl rfl rfl (V_or rfl rfl rfl rfl) ?_
          refine LQ_v rfl rfl rfl (V_indexArr rfl rfl rfl Tryd.underlying23 sz5 (by omega) (by omega) (by first | exact ix0 _ | exact ix1 _ _ | rfl)) ?_
          refine LQ_nil ?_
          refine L_store1 0 rfl rfl rfl rfl rfl rfl rfl sz5 (by simp only [dg_length, mix_length]; omega) (dg_set _ _ _) ?_
          refine L_nil ?_
          change J _ _ _ _
          refine J_seq ?_
          refine J_region ?_
          refine L_v rfl rfl rfl (V_loadW 0 rfl rfl rfl Tryd.underlying23 rfl (szd sz23 (by simp [dg_length, setBit_length, mix_length, zd_length, pre, withV_length, preV_length, *]))) ?_
          refine L_storeW 1 rfl rfl rfl rfl rfl rfl (szd sz23 (by simp [dg_length, setBit_length, mix_length, zd_length, pre, withV_length, preV_length, *])) (dg_one _) (by simp [dg_length, setBit_length, mix_length, zd_length, pre, withV_length, preV_length, *]) ?_
          refine L_v rfl rfl rfl (V_assign rfl rfl) ?_
          refine L_nil ?_
          change J _ _ _ _
          refine J_ret ?_
          change Kret _ _ _ Exit.ret _
          refine ret2 rfl rfl (RV_c 1 rfl rfl Tryd.underlying23 rfl (szd sz23 (by simp [dg_length, setBit_length, mix_length, zd_length, pre, withV_length, preV_length, *]))) (RV_t rfl) ?_
          exact fun w' h => ⟨by rw [withV_in d i b (by omega) (by omega) (.inr (by omega)), withE_in i b (by omega) (by omega) (.inr (by omega)), or_wt hb, setBit, show b = 1 by omega], h.fr⟩
        ·
          first | (have h4 := of_decide_eq_true h4) | (have h4 := of_decide_eq_false h4) | skip
          refine J_seq ?_
          refine J_region ?_
          refine L_v rfl rfl rfl (V_build (vs := []) rfl rfl bd0) ?_
          refine L_storeW 1 rfl rfl rfl rfl rfl rfl (szd sz23 (by simp [dg_length, setBit_length, mix_length, zd_length, pre, withV_length, preV_length, *])) (dg_one _) (by simp [dg_length, setBit_length, mix_length, zd_length, pre, withV_length, preV_length, *]) ?_
          refine L_v rfl rfl rfl (V_assign rfl rfl) ?_
          refine L_nil ?_
          change J _ _ _ _
          refine J_ret ?_
          change Kret _ _ _ Exit.ret _
          refine ret2 rfl rfl (RV_c 1 rfl rfl Tryd.underlying23 rfl (szd sz23 (by simp [dg_length, setBit_length, mix_length, zd_length, pre, withV_length, preV_length, *]))) (RV_t rfl) ?_
          exact fun w' h => ⟨by rw [withV_arg d i b (by omega) (by omega) (by omega), withE_arg i b (by omega) (by omega) (by omega)], h.fr⟩

theorem weight_w (i : Int) (w : World) (h0 : 0 ≤ i) :
    Calls Tryd.prog 11 #[.int .i64 i] w fun e w' => e = .returned (.int .i64 (wt i)) ∧ Fr [] w w' := by
  refine calls_of (args := [.int .i64 i]) ([]) ([]) ([]) Tryd.func11 rfl rfl (okW0 _ _ _ _) ?_
  refine J_seq ?_
  refine J_region ?_
  refine L_v rfl rfl rfl (V_assign rfl rfl) ?_
  refine L_nil ?_
  change J _ _ _ _
  refine J_seq ?_
  refine J_region ?_
  refine L_v rfl rfl rfl (V_assign rfl rfl) ?_
  refine L_nil ?_
  change J _ _ _ _
  refine J_seq ?_
  refine J_seq ?_
  refine J_region ?_
  refine L_v rfl rfl rfl (V_assign rfl rfl) ?_
  refine L_nil ?_
  change J _ _ _ _
  refine J_block ?_
  refine J_loop (X := Int) (fun k => { env := [(0, .int .i64 i), (3, .int .i64 (128 / 2 ^ k.toNat)), (4, .int .i64 k)] }) (fun k => 0 ≤ k ∧ k ≤ i % 8) (fun k => (8 - k).toNat) 0 ⟨by omega, by omega⟩ ⟨⟨rfl, rfl, rfl, trivial⟩, List.Sublist.refl _, fun f hf => hf, rfl⟩ ?_
  rintro k ⟨hk0, hk1⟩
  refine J_seq ?_
  refine J_seq ?_
  refine J_region ?_
  refine L_v rfl rfl rfl (V_move rfl rfl) ?_
  refine L_v rfl rfl rfl (V_move rfl rfl) ?_
  refine L_v rfl rfl rfl (V_rem rfl rfl rfl (by omega) (by first | exact r64 (by omega) | rfl)) ?_
  refine L_v rfl rfl rfl (V_lss rfl rfl rfl (by first | exact decide_eq_true (by omega) | exact decide_eq_false (by omega) | rfl)) ?_
  refine L_nil ?_
  change J _ _ _ _
  refine J_cond rfl (fun h1 => ?_) (fun h1 => ?_)
  ·
    first | (have h1 := of_decide_eq_true h1) | (have h1 := of_decide_eq_false h1) | skip
    refine J_skip ?_
    change J _ _ _ _
    refine J_seq ?_
    refine J_block ?_
    refine J_region ?_
    refine L_v rfl rfl rfl (V_move rfl rfl) ?_
    refine L_v rfl rfl rfl (V_quo rfl rfl rfl (by omega) (q64 (wt_bd k hk0).1 (wt_bd k hk0).2 (by omega))) ?_
    refine L_v rfl rfl rfl (V_assign rfl rfl) ?_
    refine L_nil ?_
    change J _ _ _ _
    refine J_region ?_
    refine L_v rfl rfl rfl (V_move rfl rfl) ?_
    refine L_v rfl rfl rfl (V_add rfl rfl rfl (by first | exact Go.IntWalk.i64_in _ (by omega) | rfl)) ?_
    refine L_v rfl rfl rfl (V_assign rfl rfl) ?_
    refine L_nil ?_
    exact ⟨k + 1, ⟨by omega, by omega⟩, by omega, ⟨rfl, by rw [wt_half k hk0]; rfl, rfl, trivial⟩, List.Sublist.refl _, fun f hf => hf, rfl⟩
  ·
    first | (have h1 := of_decide_eq_true h1) | (have h1 := of_decide_eq_false h1) | skip
    refine J_exit ?_
    change J _ _ _ _
    refine J_seq ?_
    refine J_region ?_
    refine L_v rfl rfl rfl (V_move rfl rfl) ?_
    refine L_v rfl rfl rfl (V_assign rfl rfl) ?_
    refine L_nil ?_
    change J _ _ _ _
    refine J_ret ?_
    change Kret _ _ _ Exit.ret _
    refine ret1 rfl rfl (RV_t rfl) ?_
    obtain rfl : k = i % 8 := by omega
    exact fun w' h => ⟨by rw [wt_last i], h.fr⟩

theorem at_w (d : List Int) (i : Int) (w : World) (hl : d.length = 32) (hb : Byt d) (h0 : 0 ≤ i) (h1 : i < 256) :
    Calls Tryd.prog 10 #[.agg (dg d).toArray, .int .i64 i] w fun e w' => e = .returned (.int .i64 (bitOf d i)) ∧ Fr [] w w' := by
  have hn := hb.nth (i / 8)
  have hw := wt_pos i
  refine calls_of (args := [.agg (dg d).toArray, .int .i64 i]) ([]) ([]) ([]) Tryd.func10 rfl rfl (okW0 _ _ _ _) ?_
  refine J_seq ?_
  refine J_region ?_
  refine L_box rfl rfl rfl rfl rfl (fun b0 => ?_)
  refine L_v rfl rfl rfl (V_assign rfl rfl) ?_
  refine L_nil ?_
  change J _ _ _ _
  refine J_seq ?_
  refine J_regionQ rfl (by kernel_rfl) ?_
  refine LQ_v rfl rfl rfl (V_move rfl rfl) ?_
  refine LQ_v rfl rfl rfl (V_quo rfl rfl rfl (by omega) (by first | exact q64 (by omega) (by omega) (by omega) | rfl)) ?_
  refine LQ_v rfl rfl rfl (V_indexArr rfl rfl rfl Tryd.underlying23 sz5 (by omega) (by omega) (by first | exact ix0 _ | exact ix1 _ _ | rfl)) ?_
  refine LQ_v rfl rfl rfl (V_load1 0 rfl rfl rfl Tryd.underlying5 rfl (by first | rfl | exact dg_get (by omega) (by simp only [mix_length]; omega) | exact dg_get (by omega) (by omega))) ?_
  refine LQ_v rfl rfl rfl (V_conv rfl rfl Tryd.underlying5 Tryd.underlying3 (by first | exact Go.IntWalk.i64_in _ (by omega) | rfl)) ?_
  refine LQ_v rfl rfl rfl (V_move rfl rfl) ?_
  refine LQ_callV rfl rfl rfl rfl rfl rfl tx11 (fun w _ => weight_w _ w (by omega)) ?_
  refine LQ_v rfl rfl rfl (V_quo rfl rfl rfl (by omega) (by first | exact q64 (by omega) (by omega) (by omega) | rfl)) ?_
  refine LQ_v rfl rfl rfl (V_rem rfl rfl rfl (by omega) (r64 (Int.ediv_nonneg hn.1 (by omega)))) ?_
  refine LQ_v rfl rfl rfl (V_assign rfl rfl) ?_
  refine LQ_nil ?_
  change J _ _ _ _
  refine J_ret ?_
  change Kret _ _ _ Exit.ret _
  refine ret1 rfl rfl (RV_t rfl) ?_
  exact fun w' h => ⟨rfl, h.fr⟩

theorem rwith_w (d : List Int) (i b : Int) (w : World) (hl : d.length = 32) (hb : Byt d) :
    Calls Tryd.prog 5 #[.agg (dg d).toArray, .int .i64 i, .int .i64 b] w fun e w' => e = .returned (.tuple #[.agg (dg (withV d i b)).toArray, .int .i64 (withE i b)]) ∧ Fr [] w w' := by
  have hn := hb.nth (i / 8)
  refine calls_of (args := [.agg (dg d).toArray, .int .i64 i, .int .i64 b]) ([]) ([]) ([]) Tryd.func5 rfl rfl (okW0 _ _ _ _) ?_
  refine J_seq ?_
  refine J_region ?_
  refine L_box rfl rfl rfl rfl rfl (fun b0 => ?_)
  refine L_alloc rfl rfl rfl rfl z23 (fun b1 => ?_)
  refine L_v rfl rfl rfl (V_assign rfl rfl) ?_
  refine L_nil ?_
  change J _ _ _ _
  refine J_seq ?_
  refine J_seq ?_
  refine J_region ?_
  refine L_v rfl rfl rfl (V_move rfl rfl) ?_
  refine L_v rfl rfl rfl (V_lss rfl rfl rfl (by first | exact decide_eq_true (by omega) | exact decide_eq_false (by omega) | rfl)) ?_
  refine L_v rfl rfl rfl (V_move rfl rfl) ?_
  refine L_split 10 rfl (fun h1 => ?_) (fun h1 => ?_)
  ·
    first | (have h1 := of_decide_eq_true h1) | (have h1 := of_decide_eq_false h1) | skip
    refine L_skip rfl rfl rfl rfl rfl rfl rfl ?_
    refine L_skip rfl rfl rfl rfl rfl rfl rfl ?_
    first | refine L_v rfl rfl rfl (V_pickT rfl rfl rfl) ?_ | refine L_v rfl rfl rfl (V_pickF rfl rfl rfl) ?_
    refine L_nil ?_
    change J _ _ _ _
    refine J_true rfl ?_
    refine J_seq ?_
    refine J_region ?_
    refine L_v rfl rfl rfl (V_build (vs := []) rfl rfl bd0) ?_
    refine L_storeW 1 rfl rfl rfl rfl rfl rfl (szd sz23 (by simp [dg_length, setBit_length, mix_length, zd_length, pre, withV_length, preV_length, *])) (dg_one _) (by simp [dg_length, setBit_length, mix_length, zd_length, pre, withV_length, preV_length, *]) ?_
    refine L_v rfl rfl rfl (V_assign rfl rfl) ?_
    refine L_nil ?_
    change J _ _ _ _
    refine J_ret ?_
    change Kret _ _ _ Exit.ret _
    refine ret2 rfl rfl (RV_c 1 rfl rfl Tryd.underlying23 rfl (szd sz23 (by simp [dg_length, setBit_length, mix_length, zd_length, pre, withV_length, preV_length, *]))) (RV_t rfl) ?_
    exact fun w' h => ⟨by rw [withV_out _ _ _ (by omega), withE_out _ _ (by omega)], h.fr⟩
  ·
    first | (have h1 := of_decide_eq_true h1) | (have h1 := of_decide_eq_false h1) | skip
    refine L_wv rfl rfl rfl rfl rfl rfl (V_move rfl rfl) ?_
    refine L_wv rfl rfl rfl rfl rfl rfl (V_gtr rfl rfl rfl (by first | exact decide_eq_true (by omega) | exact decide_eq_false (by omega) | rfl)) ?_
    first | refine L_v rfl rfl rfl (V_pickT rfl rfl rfl) ?_ | refine L_v rfl rfl rfl (V_pickF rfl rfl rfl) ?_
    refine L_nil ?_
    change J _ _ _ _
    refine J_cond rfl (fun h2 => ?_) (fun h2 => ?_)
    ·
      first | (have h2 := of_decide_eq_true h2) | (have h2 := of_decide_eq_false h2) | skip
      refine J_seq ?_
      refine J_region ?_
      refine L_v rfl rfl rfl (V_build (vs := []) rfl rfl bd0) ?_
      refine L_storeW 1 rfl rfl rfl rfl rfl rfl (szd sz23 (by simp [dg_length, setBit_length, mix_length, zd_length, pre, withV_length, preV_length, *])) (dg_one _) (by simp [dg_length, setBit_length, mix_length, zd_length, pre, withV_length, preV_length, *]) ?_
      refine L_v rfl rfl rfl (V_assign rfl rfl) ?_
      refine L_nil ?_
      change J _ _ _ _
      refine J_ret ?_
      change Kret _ _ _ Exit.ret _
      refine ret2 rfl rfl (RV_c 1 rfl rfl Tryd.underlying23 rfl (szd sz23 (by simp [dg_length, setBit_length, mix_length, zd_length, pre, withV_length, preV_length, *]))) (RV_t rfl) ?_
      exact fun w' h => ⟨by rw [withV_out _ _ _ (by omega), withE_out _ _ (by omega)], h.fr⟩
    ·
      first | (have h2 := of_decide_eq_true h2) | (have h2 := of_decide_eq_false h2) | skip
      refine J_skip ?_
      change J _ _ _ _
      refine J_seq ?_
      refine J_seq ?_
      refine J_region ?_
      refine L_v rfl rfl rfl (V_move rfl rfl) ?_
      refine L_v rfl rfl rfl (V_neq rfl rfl rfl (by first | exact decide_eq_true (by omega) | exact decide_eq_false (by omega) | rfl)) ?_
      refine L_v rfl rfl rfl (V_move rfl rfl) ?_
      refine L_split 17 rfl (fun h3 => ?_) (fun h3 => ?_)
      ·
        first | (have h3 := of_decide_eq_true h3) | (have h3 := of_decide_eq_false h3) | skip
        refine L_wv rfl rfl rfl rfl rfl rfl (V_move rfl rfl) ?_
        refine L_wv rfl rfl rfl rfl rfl rfl (V_neq rfl rfl rfl (by first | exact decide_eq_true (by omega) | exact decide_eq_false (by omega) | rfl)) ?_
        first | refine L_v rfl rfl rfl (V_pickT rfl rfl rfl) ?_ | refine L_v rfl rfl rfl (V_pickF rfl rfl rfl) ?_
        refine L_nil ?_
        change J _ _ _ _
        refine J_cond rfl (fun h4 => ?_) (fun h4 => ?_)
        ·
          first | (have h4 := of_decide_eq_true h4) | (have h4 := of_decide_eq_false h4) | skip
          refine J_seq ?_
          refine J_region ?_
          refine L_v rfl rfl rfl (V_build (vs := []) rfl rfl bd0) ?_
          refine L_storeW 1 rfl rfl rfl rfl rfl rfl (szd sz23 (by simp [dg_length, setBit_length, mix_length, zd_length, pre, withV_length, preV_length, *])) (dg_one _) (by simp [dg_length, setBit_length, mix_length, zd_length, pre, withV_length, preV_length, *]) ?_
          refine L_v rfl rfl rfl (V_assign rfl rfl) ?_
          refine L_nil ?_
          change J _ _ _ _
          refine J_ret ?_
          change Kret _ _ _ Exit.ret _
          refine ret2 rfl rfl (RV_c 1 rfl rfl Tryd.underlying23 rfl (szd sz23 (by simp [dg_length, setBit_length, mix_length, zd_length, pre, withV_length, preV_length, *]))) (RV_t rfl) ?_
          exact fun w' h => ⟨by rw [withV_arg d i b (by omega) (by omega) (by omega), withE_arg i b (by omega) (by omega) (by omega)], h.fr⟩
        ·
          first | (have h4 := of_decide_eq_true h4) | (have h4 := of_decide_eq_false h4) | skip
          refine J_skip ?_
          change J _ _ _ _
          refine J_seq ?_
          refine J_regionT 18 rfl (by kernel_rfl) ?_
          refine LQ_v rfl rfl rfl (V_move rfl rfl) ?_
          refine LQ_v rfl rfl rfl (V_quo rfl rfl rfl (by omega) (by first | exact q64 (by omega) (by omega) (by omega) | rfl)) ?_
          refine LQ_v rfl rfl rfl (V_move rfl rfl) ?_
          refine LQ_v rfl rfl rfl (V_quo rfl rfl rfl (by omega) (by first | exact q64 (by omega) (by omega) (by omega) | rfl)) ?_
          refine LQ_v rfl rfl rfl (V_indexArr rfl rfl rfl Tryd.underlying23 sz5 (by omega) (by omega) (by first | exact ix0 _ | exact ix1 _ _ | rfl)) ?_
          refine LQ_v rfl rfl rfl (V_load1 0 rfl rfl rfl Tryd.underlying5 rfl (by first | rfl | exact dg_get (by omega) (by simp only [mix_length]; omega) | exact dg_get (by omega) (by omega))) ?_
          refine LQ_v rfl rfl rfl (V_conv rfl rfl Tryd.underlying5 Tryd.underlying3 (by first | exact Go.IntWalk.i64_in _ (by omega) | rfl)) ?_
          refine LQ_v rfl rfl rfl (V_move rfl rfl) ?_
          refine LQ_v rfl rfl rfl (V_loadW 0 rfl rfl rfl Tryd.underlying23 rfl (szd sz23 (by simp [dg_length, setBit_length, mix_length, zd_length, pre, withV_length, preV_length, *]))) ?_
          refine LQ_v rfl rfl rfl (V_move rfl rfl) ?_
          refine LQ_callV rfl rfl rfl rfl rfl rfl tx10 (fun w _ => at_w _ _ w (by first | assumption | (simp [setBit_length, mix_length, zd_length, withV_length, preV_length, *]; done) | rfl) (by first | assumption | exact byt128 | exact byt129 | exact withV_byt (by assumption) _ _ | exact preV_byt (by assumption) _) (by omega) (by omega)) ?_
          refine LQ_v rfl rfl rfl (V_sub rfl rfl rfl (by have := bitOf_two d i; exact Go.IntWalk.i64_in _ (by omega))) ?_
          refine LQ_v rfl rfl rfl (V_move rfl rfl) ?_
          refine LQ_callV rfl rfl rfl rfl rfl rfl tx11 (fun w _ => weight_w _ w (by omega)) ?_
          refine LQ_v rfl rfl rfl (V_mul rfl rfl rfl (Go.IntWalk.i64_in _ (setB_bd hb i b (by omega)).1)) ?_
          refine LQ_v rfl rfl rfl (V_add rfl rfl rfl (Go.IntWalk.i64_in _ (setB_bd hb i b (by omega)).2.1)) ?_
          refine LQ_v rfl rfl rfl (V_conv rfl rfl Tryd.underlying3 Tryd.underlying5 (Go.IntWalk.u8_in _ (setB_bd hb i b (by omega)).2.2)) ?_
          refine LQ_v rfl rfl rfl (V_indexArr rfl rfl rfl Tryd.underlying23 sz5 (by omega) (by omega) (by first | exact ix0 _ | exact ix1 _ _ | rfl)) ?_
          refine LQ_nil ?_
          refine L_store1 0 rfl rfl rfl rfl rfl rfl rfl sz5 (by simp only [dg_length, mix_length]; omega) (dg_set _ _ _) ?_
          refine L_nil ?_
          change J _ _ _ _
          refine J_seq ?_
          refine J_region ?_
          refine L_v rfl rfl rfl (V_loadW 0 rfl rfl rfl Tryd.underlying23 rfl (szd sz23 (by simp [dg_length, setBit_length, mix_length, zd_length, pre, withV_length, preV_length, *]))) ?_
          refine L_storeW 1 rfl rfl rfl rfl rfl rfl (szd sz23 (by simp [dg_length, setBit_length, mix_length, zd_length, pre, withV_length, preV_length, *])) (dg_one _) (by simp [dg_length, setBit_length, mix_length, zd_length, pre, withV_length, preV_length, *]) ?_
          refine L_v rfl rfl rfl (V_assign rfl rfl) ?_
          refine L_nil ?_
          change J _ _ _ _
          refine J_ret ?_
          change Kret _ _ _ Exit.ret _
          refine ret2 rfl rfl (RV_c 1 rfl rfl Tryd.underlying23 rfl (szd sz23 (by simp [dg_length, setBit_length, mix_length, zd_length, pre, withV_length, preV_length, *]))) (RV_t rfl) ?_
          exact fun w' h => ⟨by rw [withV_in d i b (by omega) (by omega) (by omega), withE_in i b (by omega) (by omega) (by omega), setBit], h.fr⟩
      ·
        first | (have h3 := of_decide_eq_true h3) | (have h3 := of_decide_eq_false h3) | skip
        refine L_skip rfl rfl rfl rfl rfl rfl rfl ?_
        refine L_skip rfl rfl rfl rfl rfl rfl rfl ?_
        first | refine L_v rfl rfl rfl (V_pickT rfl rfl rfl) ?_ | refine L_v rfl rfl rfl (V_pickF rfl rfl rfl) ?_
        refine L_nil ?_
        change J _ _ _ _
        refine J_false rfl ?_
        refine J_skip ?_
        change J _ _ _ _
        refine J_seq ?_
        refine J_regionT 18 rfl (by kernel_rfl) ?_
        refine LQ_v rfl rfl rfl (V_move rfl rfl) ?_
        refine LQ_v rfl rfl rfl (V_quo rfl rfl rfl (by omega) (by first | exact q64 (by omega) (by omega) (by omega) | rfl)) ?_
        refine LQ_v rfl rfl rfl (V_move rfl rfl) ?_
        refine LQ_v rfl rfl rfl (V_quo rfl rfl rfl (by omega) (by first | exact q64 (by omega) (by omega) (by omega) | rfl)) ?_
        refine LQ_v rfl rfl rfl (V_indexArr rfl rfl rfl Tryd.underlying23 sz5 (by omega) (by omega) (by first | exact ix0 _ | exact ix1 _ _ | rfl)) ?_
        refine LQ_v rfl rfl rfl (V_load1 0 rfl rfl rfl Tryd.underlying5 rfl (by first | rfl | exact dg_get (by omega) (by simp only [mix_length]; omega) | exact dg_get (by omega) (by omega))) ?_
        refine LQ_v rfl rfl rfl (V_conv rfl rfl Tryd.underlying5 Tryd.underlying3 (by first | exact Go.IntWalk.i64_in _ (by omega) | rfl)) ?_
        refine LQ_v rfl rfl rfl (V_move rfl rfl) ?_
        refine LQ_v rfl rfl rfl (V_loadW 0 rfl rfl rfl Tryd.underlying23 rfl (szd sz23 (by simp [dg_length, setBit_length, mix_length, zd_length, pre, withV_length, preV_length, *]))) ?_
        refine LQ_v rfl rfl rfl (V_move rfl rfl) ?_
        refine LQ_callV rfl rfl rfl rfl rfl rfl tx10 (fun w _ => at_w _ _ w (by first | assumption | (simp [setBit_length, mix_length, zd_length, withV_length, preV_length, *]; done) | rfl) (by first | assumption | exact byt128 | exact byt129 | exact withV_byt (by assumption) _ _ | exact preV_byt (by assumption) _) (by omega) (by omega)) ?_
        refine LQ_v rfl rfl rfl (V_sub rfl rfl rfl (by have := bitOf_two d i; exact Go.IntWalk.i64_in _ (by omega))) ?_
        refine LQ_v rfl rfl rfl (V_move rfl rfl) ?_
        refine LQ_callV rfl rfl rfl rfl rfl rfl tx11 (fun w _ => weight_w _ w (by omega)) ?_
        refine LQ_v rfl rfl rfl (V_mul rfl rfl rfl (Go.IntWalk.i64_in _ (setB_bd hb i b (by omega)).1)) ?_
        refine LQ_v rfl rfl rfl (V_add rfl rfl rfl (Go.IntWalk.i64_in _ (setB_bd hb i b (by omega)).2.1)) ?_
        refine LQ_v rfl rfl rfl (V_conv rfl rfl Tryd.underlying3 Tryd.underlying5 (Go.IntWalk.u8_in _ (setB_bd hb i b (by omega)).2.2)) ?_
        refine LQ_v rfl rfl rfl (V_indexArr rfl rfl rfl Tryd.underlying23 sz5 (by omega) (by omega) (by first | exact ix0 _ | exact ix1 _ _ | rfl)) ?_
        refine LQ_nil ?_
        refine L_store1 0 rfl rfl rfl rfl rfl rfl rfl sz5 (by simp only [dg_length, mix_length]; omega) (dg_set _ _ _) ?_
        refine L_nil ?_
        change J _ _ _ _
        refine J_seq ?_
        refine J_region ?_
        refine L_v rfl rfl rfl (V_loadW 0 rfl rfl rfl Tryd.underlying23 rfl (szd sz23 (by simp [dg_length, setBit_length, mix_length, zd_length, pre, withV_length, preV_length, *]))) ?_
        refine L_storeW 1 rfl rfl rfl rfl rfl rfl (szd sz23 (by simp [dg_length, setBit_length, mix_length, zd_length, pre, withV_length, preV_length, *])) (dg_one _) (by simp [dg_length, setBit_length, mix_length, zd_length, pre, withV_length, preV_length, *]) ?_
        refine L_v rfl rfl rfl (V_assign rfl rfl) ?_
        refine L_nil ?_
        change J _ _ _ _
        refine J_ret ?_
        change Kret _ _ _ Exit.ret _
        refine ret2 rfl rfl (RV_c 1 rfl rfl Tryd.underlying23 rfl (szd sz23 (by simp [dg_length, setBit_length, mix_length, zd_length, pre, withV_length, preV_length, *]))) (RV_t rfl) ?_
        exact fun w' h => ⟨by rw [withV_in d i b (by omega) (by omega) (by omega), withE_in i b (by omega) (by omega) (by omega), setBit], h.fr⟩

theorem bits_w (w : World) :
    Calls Tryd.prog 6 #[] w fun e w' => e = .returned (.bool true) ∧ Fr [] w w' := by
  refine calls_of (args := []) ([]) ([]) ([]) Tryd.func6 rfl rfl (okW0 _ _ _ _) ?_
  refine J_seq ?_
  refine J_region ?_
  refine L_v rfl rfl rfl (V_assign rfl rfl) ?_
  refine L_nil ?_
  change J _ _ _ _
  refine J_seq ?_
  refine J_region ?_
  refine L_v rfl rfl rfl (V_build (vs := [(0, .int .u8 128)]) rfl rfl bd128) ?_
  refine L_alloc rfl rfl rfl rfl z23 (fun b0 => ?_)
  refine L_storeW 0 rfl rfl rfl rfl rfl rfl (szd sz23 (by simp [dg_length, setBit_length, mix_length, zd_length, pre, withV_length, preV_length, *])) (dg_one _) (by simp [dg_length, setBit_length, mix_length, zd_length, pre, withV_length, preV_length, *]) ?_
  refine L_nil ?_
  change J _ _ _ _
  refine J_seq ?_
  refine J_region ?_
  refine L_v rfl rfl rfl (V_loadW 0 rfl rfl rfl Tryd.underlying23 rfl (szd sz23 (by simp [dg_length, setBit_length, mix_length, zd_length, pre, withV_length, preV_length, *]))) ?_
  refine L_callV rfl rfl rfl rfl rfl rfl tx12 (fun w _ => bit_w _ _ w (by first | assumption | (simp [setBit_length, mix_length, zd_length, withV_length, preV_length, *]; done) | rfl) (by first | assumption | exact byt128 | exact byt129 | exact withV_byt (by assumption) _ _ | exact preV_byt (by assumption) _)) ?_
  refine L_v rfl rfl rfl (V_move rfl rfl) ?_
  refine L_v rfl rfl rfl (V_extract rfl rfl rfl) ?_
  refine L_v rfl rfl rfl (V_extract rfl rfl rfl) ?_
  refine L_v rfl rfl rfl (V_assign rfl rfl) ?_
  refine L_v rfl rfl rfl (V_assign rfl rfl) ?_
  refine L_nil ?_
  change J _ _ _ _
  refine J_seq ?_
  refine J_region ?_
  refine L_v rfl rfl rfl (V_loadW 0 rfl rfl rfl Tryd.underlying23 rfl (szd sz23 (by simp [dg_length, setBit_length, mix_length, zd_length, pre, withV_length, preV_length, *]))) ?_
  refine L_callV rfl rfl rfl rfl rfl rfl tx12 (fun w _ => bit_w _ _ w (by first | assumption | (simp [setBit_length, mix_length, zd_length, withV_length, preV_length, *]; done) | rfl) (by first | assumption | exact byt128 | exact byt129 | exact withV_byt (by assumption) _ _ | exact preV_byt (by assumption) _)) ?_
  refine L_v rfl rfl rfl (V_move rfl rfl) ?_
  refine L_v rfl rfl rfl (V_extract rfl rfl rfl) ?_
  refine L_v rfl rfl rfl (V_extract rfl rfl rfl) ?_
  refine L_v rfl rfl rfl (V_assign rfl rfl) ?_
  refine L_v rfl rfl rfl (V_assign rfl rfl) ?_
  refine L_nil ?_
  change J _ _ _ _
  refine J_seq ?_
  refine J_region ?_
  refine L_v rfl rfl rfl (V_loadW 0 rfl rfl rfl Tryd.underlying23 rfl (szd sz23 (by simp [dg_length, setBit_length, mix_length, zd_length, pre, withV_length, preV_length, *]))) ?_
  refine L_callV rfl rfl rfl rfl rfl rfl tx12 (fun w _ => bit_w _ _ w (by first | assumption | (simp [setBit_length, mix_length, zd_length, withV_length, preV_length, *]; done) | rfl) (by first | assumption | exact byt128 | exact byt129 | exact withV_byt (by assumption) _ _ | exact preV_byt (by assumption) _)) ?_
  refine L_v rfl rfl rfl (V_move rfl rfl) ?_
  refine L_v rfl rfl rfl (V_extract rfl rfl rfl) ?_
  refine L_v rfl rfl rfl (V_extract rfl rfl rfl) ?_
  refine L_v rfl rfl rfl (V_assign rfl rfl) ?_
  refine L_v rfl rfl rfl (V_assign rfl rfl) ?_
  refine L_nil ?_
  change J _ _ _ _
  refine J_seq ?_
  refine J_region ?_
  refine L_v rfl rfl rfl (V_move rfl rfl) ?_
  refine L_v rfl rfl rfl (V_eql rfl rfl rfl (decide_eq_true (by decide))) ?_
  refine L_v rfl rfl rfl (V_move rfl rfl) ?_
  refine L_wv rfl rfl rfl rfl rfl rfl (V_move rfl rfl) ?_
  refine L_wv rfl rfl rfl rfl rfl rfl (V_eql rfl rfl rfl (decide_eq_true (by decide))) ?_
  first | refine L_v rfl rfl rfl (V_pickT rfl rfl rfl) ?_ | refine L_v rfl rfl rfl (V_pickF rfl rfl rfl) ?_
  refine L_v rfl rfl rfl (V_move rfl rfl) ?_
  refine L_wv rfl rfl rfl rfl rfl rfl (V_move rfl rfl) ?_
  refine L_wv rfl rfl rfl rfl rfl rfl (V_eql rfl rfl rfl (decide_eq_true (by decide))) ?_
  first | refine L_v rfl rfl rfl (V_pickT rfl rfl rfl) ?_ | refine L_v rfl rfl rfl (V_pickF rfl rfl rfl) ?_
  refine L_v rfl rfl rfl (V_move rfl rfl) ?_
  refine L_wv rfl rfl rfl rfl rfl rfl (V_move rfl rfl) ?_
  refine L_wv rfl rfl rfl rfl rfl rfl (V_eql rfl rfl rfl (decide_eq_true (by decide))) ?_
  first | refine L_v rfl rfl rfl (V_pickT rfl rfl rfl) ?_ | refine L_v rfl rfl rfl (V_pickF rfl rfl rfl) ?_
  refine L_v rfl rfl rfl (V_move rfl rfl) ?_
  refine L_wv rfl rfl rfl rfl rfl rfl (V_move rfl rfl) ?_
  refine L_wv rfl rfl rfl rfl rfl rfl (V_eql rfl rfl rfl (decide_eq_true (by decide))) ?_
  first | refine L_v rfl rfl rfl (V_pickT rfl rfl rfl) ?_ | refine L_v rfl rfl rfl (V_pickF rfl rfl rfl) ?_
  refine L_v rfl rfl rfl (V_assign rfl rfl) ?_
  refine L_nil ?_
  change J _ _ _ _
  refine J_ret ?_
  change Kret _ _ _ Exit.ret _
  refine ret1 rfl rfl (RV_t rfl) ?_
  exact fun w' h => ⟨rfl, h.fr⟩

end Go.Proofs.YtokpnjbfbkphiaaDoor
