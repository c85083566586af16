/- What the law comes to. -/
import Derived.Test.YtokpnjbfbkphiaaPath
set_option linter.unusedVariables false
set_option linter.unusedSimpArgs false
set_option maxRecDepth 100000
namespace Go.Proofs.Ytokpnjbfbkphiaa
open Go.Sx
theorem sz5l : (Try.prog.info? 5).map (·.size) = some 1 := by kernel_rfl
theorem sz23l : (Try.prog.info? 23).map (·.size) = some 32 := by kernel_rfl
theorem tx9l : Txt Try.prog 9 := txt_of Try.func9 rfl (by kernel_rfl)
theorem tx11l : Txt Try.prog 11 := txt_of Try.func11 rfl (by kernel_rfl)
theorem tx14l : Txt Try.prog 14 := txt_of Try.func14 rfl (by kernel_rfl)
theorem tx17l : Txt Try.prog 17 := txt_of Try.func17 rfl (by kernel_rfl)
theorem tx19l : Txt Try.prog 19 := txt_of Try.func19 rfl (by kernel_rfl)
theorem tx21l : Txt Try.prog 21 := txt_of Try.func21 rfl (by kernel_rfl)
theorem z23l : (Try.prog.info? 23).bind (·.zero) = some (.agg (dg zd).toArray) := by kernel_rfl

theorem PathTurns_out (d : List Int) (i b : Int) (w : World) (hl : d.length = 32) (hb : Byt d) (hE : withE i b ≠ 0) (hz : decide (withV d i b = zd) = true) :
    Calls Try.prog 8 #[.agg (dg d).toArray, .int .i64 i, .int .i64 b] w fun e w' => e = .returned (.bool true) ∧ Fr [] w w' := by
  refine calls_of (args := [.agg (dg d).toArray, .int .i64 i, .int .i64 b]) ([]) ([]) ([]) Try.func8 rfl rfl (okW0 _ _ _ _) ?_
  refine J_seq ?_
  refine J_region ?_
  -- law.go:79 t3 := box
  refine L_box rfl rfl rfl rfl rfl (fun b0 => ?_)
  -- law.go:79 t6 := assign
  refine L_v rfl rfl rfl (V_assign rfl rfl) ?_
  refine L_nil ?_
  change J _ _ _ _
  refine J_seq ?_
  refine J_region ?_
  -- law.go:80 t15 := load
  refine L_v rfl rfl rfl (V_loadW 0 rfl rfl rfl Try.underlying23 rfl (szd sz23l (by simp [dg_length, setBit_length, mix_length, zd_length, pre, withV_length, preV_length, *]))) ?_
  -- law.go:80 t16 := move
  refine L_v rfl rfl rfl (V_move rfl rfl) ?_
  -- law.go:80 t17 := move
  refine L_v rfl rfl rfl (V_move rfl rfl) ?_
  -- law.go:80 t18 := call
  refine L_callV rfl rfl rfl rfl rfl rfl tx21l (fun w _ => with_w _ _ _ w (by first | assumption | exact withV_length (by assumption) _ _ | exact preV_length _ _) (by first | assumption | exact byt128 | exact byt129 | exact withV_byt (by assumption) _ _ | exact preV_byt (by assumption) _)) ?_
  -- law.go:80 t14 := move
  refine L_v rfl rfl rfl (V_move rfl rfl) ?_
  -- law.go:80 t19 := extract
  refine L_v rfl rfl rfl (V_extract rfl rfl rfl) ?_
  -- law.go:80 t20 := extract
  refine L_v rfl rfl rfl (V_extract rfl rfl rfl) ?_
  -- law.go:80 t7 := alloc
  refine L_alloc rfl rfl rfl rfl z23l (fun b1 => ?_)
  -- law.go:80 tNone := store
  refine L_storeW 1 rfl rfl rfl rfl rfl rfl (szd sz23l (by simp [dg_length, setBit_length, mix_length, zd_length, pre, withV_length, preV_length, *])) (dg_one _) (by simp [dg_length, setBit_length, mix_length, zd_length, pre, withV_length, preV_length, *]) ?_
  -- law.go:80 t8 := assign
  refine L_v rfl rfl rfl (V_assign rfl rfl) ?_
  refine L_nil ?_
  change J _ _ _ _
  refine J_seq ?_
  refine J_seq ?_
  refine J_region ?_
  -- law.go:81 t21 := move
  refine L_v rfl rfl rfl (V_move rfl rfl) ?_
  -- law.go:81 t22 := binOp
  refine L_v rfl rfl rfl (V_neq rfl rfl rfl (by first | exact decide_eq_true (by omega) | exact decide_eq_false (by omega) | rfl)) ?_
  refine L_nil ?_
  change J _ _ _ _
  refine J_true rfl ?_
  refine J_seq ?_
  refine J_region ?_
  -- law.go:82 t23 := call
  refine L_callV rfl rfl rfl rfl rfl rfl tx11l (fun w _ => bits_w w) ?_
  -- law.go:82 t24 := move
  refine L_v rfl rfl rfl (V_move rfl rfl) ?_
  -- law.go:82 t25 := call
  -- law.go:82 t25 := call
  refine L_wcallV rfl rfl rfl rfl rfl rfl rfl rfl rfl tx14l (fun w _ => commons_w w) ?_
  -- law.go:82 t26 := pick
  first | refine L_v rfl rfl rfl (V_pickT rfl rfl rfl) ?_ | refine L_v rfl rfl rfl (V_pickF rfl rfl rfl) ?_
  -- law.go:82 t27 := move
  refine L_v rfl rfl rfl (V_move rfl rfl) ?_
  -- law.go:82 t28 := load
  -- law.go:82 t28 := load
  refine L_wv rfl rfl rfl rfl rfl rfl (V_loadW 1 rfl rfl rfl Try.underlying23 rfl (szd sz23l (by simp [dg_length, setBit_length, mix_length, zd_length, pre, withV_length, preV_length, *]))) ?_
  -- law.go:82 t29 := build
  refine L_wv rfl rfl rfl rfl rfl rfl (V_build (vs := []) rfl rfl bd0) ?_
  -- law.go:82 t30 := binOp
  refine L_wv rfl rfl rfl rfl rfl rfl (V_eqD rfl rfl rfl eg23 Try.underlying23 Try.underlying5 sz5l (by simp [dg_length, setBit_length, mix_length, zd_length, pre, withV_length, preV_length, *]) (by simp [dg_length, setBit_length, mix_length, zd_length, pre, withV_length, preV_length, *]) hz) ?_
  -- law.go:82 t31 := pick
  first | refine L_v rfl rfl rfl (V_pickT rfl rfl rfl) ?_ | refine L_v rfl rfl rfl (V_pickF rfl rfl rfl) ?_
  -- law.go:82 t6 := assign
  refine L_v rfl rfl rfl (V_assign rfl rfl) ?_
  refine L_nil ?_
  change J _ _ _ _
  refine J_ret ?_
  change Kret _ _ _ Exit.ret _
  refine ret1 rfl rfl (RV_t rfl) ?_
  exact fun w' h => ⟨rfl, h.fr⟩

theorem PathTurns_in (d : List Int) (i b : Int) (w : World) (hl : d.length = 32) (hb : Byt d) (i0 : 0 ≤ i) (i1 : i < 256) (hbit : b = 0 ∨ b = 1) :
    Calls Try.prog 8 #[.agg (dg d).toArray, .int .i64 i, .int .i64 b] w fun e w' => e = .returned (.bool true) ∧ Fr [] w w' := by
  have hE := withE_in i b i0 i1 hbit
  refine calls_of (args := [.agg (dg d).toArray, .int .i64 i, .int .i64 b]) ([]) ([]) ([]) Try.func8 rfl rfl (okW0 _ _ _ _) ?_
  refine J_seq ?_
  refine J_region ?_
  -- law.go:79 t3 := box
  refine L_box rfl rfl rfl rfl rfl (fun b0 => ?_)
  -- law.go:79 t6 := assign
  refine L_v rfl rfl rfl (V_assign rfl rfl) ?_
  refine L_nil ?_
  change J _ _ _ _
  refine J_seq ?_
  refine J_region ?_
  -- law.go:80 t15 := load
  refine L_v rfl rfl rfl (V_loadW 0 rfl rfl rfl Try.underlying23 rfl (szd sz23l (by simp [dg_length, setBit_length, mix_length, zd_length, pre, withV_length, preV_length, *]))) ?_
  -- law.go:80 t16 := move
  refine L_v rfl rfl rfl (V_move rfl rfl) ?_
  -- law.go:80 t17 := move
  refine L_v rfl rfl rfl (V_move rfl rfl) ?_
  -- law.go:80 t18 := call
  refine L_callV rfl rfl rfl rfl rfl rfl tx21l (fun w _ => with_w _ _ _ w (by first | assumption | exact withV_length (by assumption) _ _ | exact preV_length _ _) (by first | assumption | exact byt128 | exact byt129 | exact withV_byt (by assumption) _ _ | exact preV_byt (by assumption) _)) ?_
  -- law.go:80 t14 := move
  refine L_v rfl rfl rfl (V_move rfl rfl) ?_
  -- law.go:80 t19 := extract
  refine L_v rfl rfl rfl (V_extract rfl rfl rfl) ?_
  -- law.go:80 t20 := extract
  refine L_v rfl rfl rfl (V_extract rfl rfl rfl) ?_
  -- law.go:80 t7 := alloc
  refine L_alloc rfl rfl rfl rfl z23l (fun b1 => ?_)
  -- law.go:80 tNone := store
  refine L_storeW 1 rfl rfl rfl rfl rfl rfl (szd sz23l (by simp [dg_length, setBit_length, mix_length, zd_length, pre, withV_length, preV_length, *])) (dg_one _) (by simp [dg_length, setBit_length, mix_length, zd_length, pre, withV_length, preV_length, *]) ?_
  -- law.go:80 t8 := assign
  refine L_v rfl rfl rfl (V_assign rfl rfl) ?_
  refine L_nil ?_
  change J _ _ _ _
  refine J_seq ?_
  refine J_seq ?_
  refine J_region ?_
  -- law.go:81 t21 := move
  refine L_v rfl rfl rfl (V_move rfl rfl) ?_
  -- law.go:81 t22 := binOp
  refine L_v rfl rfl rfl (V_neq rfl rfl rfl (by first | exact decide_eq_true (by omega) | exact decide_eq_false (by omega) | rfl)) ?_
  refine L_nil ?_
  change J _ _ _ _
  refine J_false rfl ?_
  refine J_skip ?_
  change J _ _ _ _
  refine J_seq ?_
  refine J_seq ?_
  refine J_region ?_
  -- law.go:84 t9 := assign
  refine L_v rfl rfl rfl (V_assign rfl rfl) ?_
  refine L_nil ?_
  change J _ _ _ _
  refine J_block ?_
  refine J_loop (X := Int) (fun k => { env := [(1, .int .i64 i), (2, .int .i64 b), (3, .pointer (some ⟨b0, 0, none⟩)), (7, .pointer (some ⟨b1, 0, none⟩)), (9, .int .i64 k)], mem := [(b0, row 23 (dg d)), (b1, row 23 (dg (withV d i b)))] }) (fun k => 0 ≤ k ∧ k ≤ 256) (fun k => (256 - k).toNat) 0 ⟨by omega, by omega⟩ ⟨⟨rfl, rfl, rfl, rfl, rfl, trivial⟩, List.Sublist.refl _, fun f hf => hf, rfl⟩ ?_
  rintro k ⟨hk0, hk1⟩
  refine J_seq ?_
  refine J_seq ?_
  refine J_region ?_
  -- law.go:84 t32 := move
  refine L_v rfl rfl rfl (V_move rfl rfl) ?_
  -- law.go:84 t33 := binOp
  refine L_v rfl rfl rfl (V_lss rfl rfl rfl (by first | exact decide_eq_true (by omega) | exact decide_eq_false (by omega) | rfl)) ?_
  refine L_nil ?_
  change J _ _ _ _
  refine J_cond rfl (fun h1 => ?_) (fun h1 => ?_)
  ·
    first | (have h1 := of_decide_eq_true h1) | (have h1 := of_decide_eq_false h1) | skip
    have hbe := bitE_in k hk0 (by omega)
    have htb := turn_bits hl hb i0 i1 hbit hk0 (show k < 256 by omega)
    refine J_skip ?_
    change J _ _ _ _
    refine J_seq ?_
    refine J_block ?_
    refine J_seq ?_
    refine J_region ?_
    -- law.go:85 t37 := load
    refine L_v rfl rfl rfl (V_loadW 0 rfl rfl rfl Try.underlying23 rfl (szd sz23l (by simp [dg_length, setBit_length, mix_length, zd_length, pre, withV_length, preV_length, *]))) ?_
    -- law.go:85 t38 := move
    refine L_v rfl rfl rfl (V_move rfl rfl) ?_
    -- law.go:85 t39 := call
    refine L_callV rfl rfl rfl rfl rfl rfl tx9l (fun w _ => bit_w _ _ w (by first | assumption | exact withV_length (by assumption) _ _ | exact preV_length _ _) (by first | assumption | exact byt128 | exact byt129 | exact withV_byt (by assumption) _ _ | exact preV_byt (by assumption) _)) ?_
    -- law.go:85 t36 := move
    refine L_v rfl rfl rfl (V_move rfl rfl) ?_
    -- law.go:85 t40 := extract
    refine L_v rfl rfl rfl (V_extract rfl rfl rfl) ?_
    -- law.go:85 t41 := extract
    refine L_v rfl rfl rfl (V_extract rfl rfl rfl) ?_
    -- law.go:85 t10 := assign
    refine L_v rfl rfl rfl (V_assign rfl rfl) ?_
    -- law.go:85 t11 := assign
    refine L_v rfl rfl rfl (V_assign rfl rfl) ?_
    refine L_nil ?_
    change J _ _ _ _
    refine J_seq ?_
    refine J_region ?_
    -- law.go:86 t43 := load
    refine L_v rfl rfl rfl (V_loadW 1 rfl rfl rfl Try.underlying23 rfl (szd sz23l (by simp [dg_length, setBit_length, mix_length, zd_length, pre, withV_length, preV_length, *]))) ?_
    -- law.go:86 t44 := move
    refine L_v rfl rfl rfl (V_move rfl rfl) ?_
    -- law.go:86 t45 := call
    refine L_callV rfl rfl rfl rfl rfl rfl tx9l (fun w _ => bit_w _ _ w (by first | assumption | exact withV_length (by assumption) _ _ | exact preV_length _ _) (by first | assumption | exact byt128 | exact byt129 | exact withV_byt (by assumption) _ _ | exact preV_byt (by assumption) _)) ?_
    -- law.go:86 t42 := move
    refine L_v rfl rfl rfl (V_move rfl rfl) ?_
    -- law.go:86 t46 := extract
    refine L_v rfl rfl rfl (V_extract rfl rfl rfl) ?_
    -- law.go:86 t47 := extract
    refine L_v rfl rfl rfl (V_extract rfl rfl rfl) ?_
    -- law.go:86 t12 := assign
    refine L_v rfl rfl rfl (V_assign rfl rfl) ?_
    -- law.go:86 t13 := assign
    refine L_v rfl rfl rfl (V_assign rfl rfl) ?_
    refine L_nil ?_
    change J _ _ _ _
    refine J_seq ?_
    refine J_region ?_
    -- law.go:87 t48 := move
    refine L_v rfl rfl rfl (V_move rfl rfl) ?_
    -- law.go:87 t49 := binOp
    refine L_v rfl rfl rfl (V_neq rfl rfl rfl (by first | exact decide_eq_true (by omega) | exact decide_eq_false (by omega) | rfl)) ?_
    -- law.go:87 t50 := move
    refine L_v rfl rfl rfl (V_move rfl rfl) ?_
    -- law.go:87 t51 := move
    -- law.go:87 t51 := move
    refine L_wv rfl rfl rfl rfl rfl rfl (V_move rfl rfl) ?_
    -- law.go:87 t52 := binOp
    refine L_wv rfl rfl rfl rfl rfl rfl (V_neq rfl rfl rfl (by first | exact decide_eq_true (by omega) | exact decide_eq_false (by omega) | rfl)) ?_
    -- law.go:87 t53 := pick
    first | refine L_v rfl rfl rfl (V_pickT rfl rfl rfl) ?_ | refine L_v rfl rfl rfl (V_pickF rfl rfl rfl) ?_
    -- law.go:87 t54 := move
    refine L_v rfl rfl rfl (V_move rfl rfl) ?_
    -- law.go:87 t55 := move
    -- law.go:87 t55 := move
    refine L_wv rfl rfl rfl rfl rfl rfl (V_move rfl rfl) ?_
    -- law.go:87 t56 := move
    refine L_wv rfl rfl rfl rfl rfl rfl (V_move rfl rfl) ?_
    -- law.go:87 t57 := binOp
    refine L_wv rfl rfl rfl rfl rfl rfl (V_neq rfl rfl rfl (by first | exact decide_eq_true (by omega) | exact decide_eq_false (by omega) | rfl)) ?_
    -- law.go:87 t58 := move
    refine L_wv rfl rfl rfl rfl rfl rfl (V_move rfl rfl) ?_
    -- law.go:87 t59 := move
    refine L_split 58 rfl (fun h2 => ?_) (fun h2 => ?_)
    ·
      first | (have h2 := of_decide_eq_true h2) | (have h2 := of_decide_eq_false h2) | skip
      -- law.go:87 t59 := move
      refine L_wv rfl rfl rfl rfl rfl rfl (V_move rfl rfl) ?_
      -- law.go:87 t60 := move
      refine L_wv rfl rfl rfl rfl rfl rfl (V_move rfl rfl) ?_
      -- law.go:87 t61 := binOp
      refine L_wv rfl rfl rfl rfl rfl rfl (V_neq rfl rfl rfl (by first | exact decide_eq_true (by omega) | exact decide_eq_false (by omega) | rfl)) ?_
      -- law.go:87 t62 := pick
      first | refine L_wv rfl rfl rfl rfl rfl rfl (V_pickT rfl rfl rfl) ?_ | refine L_wv rfl rfl rfl rfl rfl rfl (V_pickF rfl rfl rfl) ?_
      -- law.go:87 t63 := pick
      first | refine L_v rfl rfl rfl (V_pickT rfl rfl rfl) ?_ | refine L_v rfl rfl rfl (V_pickF rfl rfl rfl) ?_
      -- law.go:87 t64 := move
      refine L_v rfl rfl rfl (V_move rfl rfl) ?_
      -- law.go:87 t65 := move
      -- law.go:87 t65 := move
      refine L_wv rfl rfl rfl rfl rfl rfl (V_move rfl rfl) ?_
      -- law.go:87 t66 := move
      refine L_wv rfl rfl rfl rfl rfl rfl (V_move rfl rfl) ?_
      -- law.go:87 t67 := binOp
      refine L_wv rfl rfl rfl rfl rfl rfl (V_eql rfl rfl rfl (by first | exact decide_eq_true (by omega) | exact decide_eq_false (by omega) | rfl)) ?_
      -- law.go:87 t68 := move
      refine L_wv rfl rfl rfl rfl rfl rfl (V_move rfl rfl) ?_
      -- law.go:87 t69 := move
      -- law.go:87 t69 := move
      refine L_skip rfl rfl rfl rfl rfl rfl rfl ?_
      -- law.go:87 t70 := move
      refine L_skip rfl rfl rfl rfl rfl rfl rfl ?_
      -- law.go:87 t71 := binOp
      refine L_skip rfl rfl rfl rfl rfl rfl rfl ?_
      -- law.go:87 t72 := pick
      first | refine L_wv rfl rfl rfl rfl rfl rfl (V_pickT rfl rfl rfl) ?_ | refine L_wv rfl rfl rfl rfl rfl rfl (V_pickF rfl rfl rfl) ?_
      -- law.go:87 t73 := pick
      first | refine L_v rfl rfl rfl (V_pickT rfl rfl rfl) ?_ | refine L_v rfl rfl rfl (V_pickF rfl rfl rfl) ?_
      refine L_nil ?_
      change J _ _ _ _
      refine J_false rfl ?_
      refine J_skip ?_
      change J _ _ _ _
      refine J_region ?_
      -- law.go:84 t34 := move
      refine L_v rfl rfl rfl (V_move rfl rfl) ?_
      -- law.go:84 t35 := binOp
      refine L_v rfl rfl rfl (V_add rfl rfl rfl (by first | exact Go.IntWalk.i64_in _ (by omega) | rfl)) ?_
      -- law.go:84 t9 := assign
      refine L_v rfl rfl rfl (V_assign rfl rfl) ?_
      refine L_nil ?_
      exact ⟨k + 1, ⟨by omega, by omega⟩, by omega, ⟨rfl, rfl, rfl, rfl, rfl, trivial⟩, List.Sublist.refl _, fun f hf => hf, rfl⟩
    ·
      first | (have h2 := of_decide_eq_true h2) | (have h2 := of_decide_eq_false h2) | skip
      -- law.go:87 t59 := move
      refine L_skip rfl rfl rfl rfl rfl rfl rfl ?_
      -- law.go:87 t60 := move
      refine L_skip rfl rfl rfl rfl rfl rfl rfl ?_
      -- law.go:87 t61 := binOp
      refine L_skip rfl rfl rfl rfl rfl rfl rfl ?_
      -- law.go:87 t62 := pick
      first | refine L_wv rfl rfl rfl rfl rfl rfl (V_pickT rfl rfl rfl) ?_ | refine L_wv rfl rfl rfl rfl rfl rfl (V_pickF rfl rfl rfl) ?_
      -- law.go:87 t63 := pick
      first | refine L_v rfl rfl rfl (V_pickT rfl rfl rfl) ?_ | refine L_v rfl rfl rfl (V_pickF rfl rfl rfl) ?_
      -- law.go:87 t64 := move
      refine L_v rfl rfl rfl (V_move rfl rfl) ?_
      -- law.go:87 t65 := move
      -- law.go:87 t65 := move
      refine L_wv rfl rfl rfl rfl rfl rfl (V_move rfl rfl) ?_
      -- law.go:87 t66 := move
      refine L_wv rfl rfl rfl rfl rfl rfl (V_move rfl rfl) ?_
      -- law.go:87 t67 := binOp
      refine L_wv rfl rfl rfl rfl rfl rfl (V_eql rfl rfl rfl (by first | exact decide_eq_true (by omega) | exact decide_eq_false (by omega) | rfl)) ?_
      -- law.go:87 t68 := move
      refine L_wv rfl rfl rfl rfl rfl rfl (V_move rfl rfl) ?_
      -- law.go:87 t69 := move
      -- law.go:87 t69 := move
      refine L_wv rfl rfl rfl rfl rfl rfl (V_move rfl rfl) ?_
      -- law.go:87 t70 := move
      refine L_wv rfl rfl rfl rfl rfl rfl (V_move rfl rfl) ?_
      -- law.go:87 t71 := binOp
      refine L_wv rfl rfl rfl rfl rfl rfl (V_neq rfl rfl rfl (by first | exact decide_eq_true (by omega) | exact decide_eq_false (by omega) | rfl)) ?_
      -- law.go:87 t72 := pick
      first | refine L_wv rfl rfl rfl rfl rfl rfl (V_pickT rfl rfl rfl) ?_ | refine L_wv rfl rfl rfl rfl rfl rfl (V_pickF rfl rfl rfl) ?_
      -- law.go:87 t73 := pick
      first | refine L_v rfl rfl rfl (V_pickT rfl rfl rfl) ?_ | refine L_v rfl rfl rfl (V_pickF rfl rfl rfl) ?_
      refine L_nil ?_
      change J _ _ _ _
      refine J_false rfl ?_
      refine J_skip ?_
      change J _ _ _ _
      refine J_region ?_
      -- law.go:84 t34 := move
      refine L_v rfl rfl rfl (V_move rfl rfl) ?_
      -- law.go:84 t35 := binOp
      refine L_v rfl rfl rfl (V_add rfl rfl rfl (by first | exact Go.IntWalk.i64_in _ (by omega) | rfl)) ?_
      -- law.go:84 t9 := assign
      refine L_v rfl rfl rfl (V_assign rfl rfl) ?_
      refine L_nil ?_
      exact ⟨k + 1, ⟨by omega, by omega⟩, by omega, ⟨rfl, rfl, rfl, rfl, rfl, trivial⟩, List.Sublist.refl _, fun f hf => hf, rfl⟩
  ·
    first | (have h1 := of_decide_eq_true h1) | (have h1 := of_decide_eq_false h1) | skip
    refine J_exit ?_
    change J _ _ _ _
    refine J_seq ?_
    refine J_region ?_
    -- law.go:91 t74 := call
    refine L_callV rfl rfl rfl rfl rfl rfl tx11l (fun w _ => bits_w w) ?_
    -- law.go:91 t75 := move
    refine L_v rfl rfl rfl (V_move rfl rfl) ?_
    -- law.go:91 t76 := call
    -- law.go:91 t76 := call
    refine L_wcallV rfl rfl rfl rfl rfl rfl rfl rfl rfl tx14l (fun w _ => commons_w w) ?_
    -- law.go:91 t77 := pick
    first | refine L_v rfl rfl rfl (V_pickT rfl rfl rfl) ?_ | refine L_v rfl rfl rfl (V_pickF rfl rfl rfl) ?_
    -- law.go:91 t78 := move
    refine L_v rfl rfl rfl (V_move rfl rfl) ?_
    -- law.go:91 t79 := load
    -- law.go:91 t79 := load
    refine L_wv rfl rfl rfl rfl rfl rfl (V_loadW 0 rfl rfl rfl Try.underlying23 rfl (szd sz23l (by simp [dg_length, setBit_length, mix_length, zd_length, pre, withV_length, preV_length, *]))) ?_
    -- law.go:91 t80 := load
    refine L_wv rfl rfl rfl rfl rfl rfl (V_loadW 1 rfl rfl rfl Try.underlying23 rfl (szd sz23l (by simp [dg_length, setBit_length, mix_length, zd_length, pre, withV_length, preV_length, *]))) ?_
    -- law.go:91 t81 := binOp
    refine L_wv rfl rfl rfl rfl rfl rfl (V_eqD rfl rfl rfl eg23 Try.underlying23 Try.underlying5 sz5l (by simp [dg_length, setBit_length, mix_length, zd_length, pre, withV_length, preV_length, *]) (by simp [dg_length, setBit_length, mix_length, zd_length, pre, withV_length, preV_length, *]) rfl) ?_
    -- law.go:91 t82 := move
    refine L_wv rfl rfl rfl rfl rfl rfl (V_move rfl rfl) ?_
    -- law.go:91 t83 := load
    refine L_split 82 rfl (fun h2 => ?_) (fun h2 => ?_)
    ·
      first | (have h2 := of_decide_eq_true h2) | (have h2 := of_decide_eq_false h2) | skip
      -- law.go:91 t83 := load
      refine L_skip rfl rfl rfl rfl rfl rfl rfl ?_
      -- law.go:91 t84 := load
      refine L_skip rfl rfl rfl rfl rfl rfl rfl ?_
      -- law.go:91 t85 := call
      refine L_skip rfl rfl rfl rfl rfl rfl rfl ?_
      -- law.go:91 t86 := move
      refine L_skip rfl rfl rfl rfl rfl rfl rfl ?_
      -- law.go:91 t87 := binOp
      refine L_skip rfl rfl rfl rfl rfl rfl rfl ?_
      -- law.go:91 t88 := move
      refine L_skip rfl rfl rfl rfl rfl rfl rfl ?_
      -- law.go:91 t89 := load
      refine L_skip rfl rfl rfl rfl rfl rfl rfl ?_
      -- law.go:91 t90 := load
      refine L_skip rfl rfl rfl rfl rfl rfl rfl ?_
      -- law.go:91 t91 := call
      refine L_skip rfl rfl rfl rfl rfl rfl rfl ?_
      -- law.go:91 t92 := move
      refine L_skip rfl rfl rfl rfl rfl rfl rfl ?_
      -- law.go:91 t93 := binOp
      refine L_skip rfl rfl rfl rfl rfl rfl rfl ?_
      -- law.go:91 t94 := binOp
      refine L_skip rfl rfl rfl rfl rfl rfl rfl ?_
      -- law.go:91 t95 := pick
      refine L_skip rfl rfl rfl rfl rfl rfl rfl ?_
      -- law.go:91 t96 := pick
      first | refine L_wv rfl rfl rfl rfl rfl rfl (V_pickT rfl rfl rfl) ?_ | refine L_wv rfl rfl rfl rfl rfl rfl (V_pickF rfl rfl rfl) ?_
      -- law.go:91 t97 := pick
      first | refine L_v rfl rfl rfl (V_pickT rfl rfl rfl) ?_ | refine L_v rfl rfl rfl (V_pickF rfl rfl rfl) ?_
      -- law.go:91 t6 := assign
      refine L_v rfl rfl rfl (V_assign rfl rfl) ?_
      refine L_nil ?_
      change J _ _ _ _
      refine J_ret ?_
      change Kret _ _ _ Exit.ret _
      refine ret1 rfl rfl (RV_t rfl) ?_
      exact fun w' h => ⟨rfl, h.fr⟩
    ·
      first | (have h2 := of_decide_eq_true h2) | (have h2 := of_decide_eq_false h2) | skip
      have hne : d ≠ setBit d i b := fun e => by rw [← withV_in d i b i0 i1 hbit] at e; contradiction
      have htc := turn_com hl hb i0 i1 hbit hne
      rw [← withV_in d i b i0 i1 hbit] at htc
      obtain ⟨hcc, hlb⟩ := htc
      have hlt : (lessB d (withV d i b) == decide (b = 1)) = true := by rw [hlb]; exact beq_self_eq_true _
      -- law.go:91 t83 := load
      refine L_wv rfl rfl rfl rfl rfl rfl (V_loadW 0 rfl rfl rfl Try.underlying23 rfl (szd sz23l (by simp [dg_length, setBit_length, mix_length, zd_length, pre, withV_length, preV_length, *]))) ?_
      -- law.go:91 t84 := load
      refine L_wv rfl rfl rfl rfl rfl rfl (V_loadW 1 rfl rfl rfl Try.underlying23 rfl (szd sz23l (by simp [dg_length, setBit_length, mix_length, zd_length, pre, withV_length, preV_length, *]))) ?_
      -- law.go:91 t85 := call
      refine L_wcallV rfl rfl rfl rfl rfl rfl rfl rfl rfl tx17l (fun w _ => common_w _ _ w (by first | assumption | exact withV_length (by assumption) _ _ | exact preV_length _ _) (by first | assumption | exact withV_length (by assumption) _ _ | exact preV_length _ _) (by first | assumption | exact byt128 | exact byt129 | exact withV_byt (by assumption) _ _ | exact preV_byt (by assumption) _) (by first | assumption | exact byt128 | exact byt129 | exact withV_byt (by assumption) _ _ | exact preV_byt (by assumption) _)) ?_
      -- law.go:91 t86 := move
      refine L_wv rfl rfl rfl rfl rfl rfl (V_move rfl rfl) ?_
      -- law.go:91 t87 := binOp
      refine L_wv rfl rfl rfl rfl rfl rfl (V_eql rfl rfl rfl (by first | exact decide_eq_true (by omega) | exact decide_eq_false (by omega) | rfl)) ?_
      -- law.go:91 t88 := move
      refine L_wv rfl rfl rfl rfl rfl rfl (V_move rfl rfl) ?_
      -- law.go:91 t89 := load
      -- law.go:91 t89 := load
      refine L_wv rfl rfl rfl rfl rfl rfl (V_loadW 0 rfl rfl rfl Try.underlying23 rfl (szd sz23l (by simp [dg_length, setBit_length, mix_length, zd_length, pre, withV_length, preV_length, *]))) ?_
      -- law.go:91 t90 := load
      refine L_wv rfl rfl rfl rfl rfl rfl (V_loadW 1 rfl rfl rfl Try.underlying23 rfl (szd sz23l (by simp [dg_length, setBit_length, mix_length, zd_length, pre, withV_length, preV_length, *]))) ?_
      -- law.go:91 t91 := call
      refine L_wcallV rfl rfl rfl rfl rfl rfl rfl rfl rfl tx19l (fun w _ => less_w _ _ w (by first | assumption | exact withV_length (by assumption) _ _ | exact preV_length _ _) (by first | assumption | exact withV_length (by assumption) _ _ | exact preV_length _ _) (by first | assumption | exact byt128 | exact byt129 | exact withV_byt (by assumption) _ _ | exact preV_byt (by assumption) _) (by first | assumption | exact byt128 | exact byt129 | exact withV_byt (by assumption) _ _ | exact preV_byt (by assumption) _)) ?_
      -- law.go:91 t92 := move
      refine L_wv rfl rfl rfl rfl rfl rfl (V_move rfl rfl) ?_
      -- law.go:91 t93 := binOp
      refine L_wv rfl rfl rfl rfl rfl rfl (V_eql rfl rfl rfl (by first | exact decide_eq_true (by omega) | exact decide_eq_false (by omega) | rfl)) ?_
      -- law.go:91 t94 := binOp
      refine L_wv rfl rfl rfl rfl rfl rfl (V_eqB rfl rfl rfl Try.underlying4 hlt) ?_
      -- law.go:91 t95 := pick
      first | refine L_wv rfl rfl rfl rfl rfl rfl (V_pickT rfl rfl rfl) ?_ | refine L_wv rfl rfl rfl rfl rfl rfl (V_pickF rfl rfl rfl) ?_
      -- law.go:91 t96 := pick
      first | refine L_wv rfl rfl rfl rfl rfl rfl (V_pickT rfl rfl rfl) ?_ | refine L_wv rfl rfl rfl rfl rfl rfl (V_pickF rfl rfl rfl) ?_
      -- law.go:91 t97 := pick
      first | refine L_v rfl rfl rfl (V_pickT rfl rfl rfl) ?_ | refine L_v rfl rfl rfl (V_pickF rfl rfl rfl) ?_
      -- law.go:91 t6 := assign
      refine L_v rfl rfl rfl (V_assign rfl rfl) ?_
      refine L_nil ?_
      change J _ _ _ _
      refine J_ret ?_
      change Kret _ _ _ Exit.ret _
      refine ret1 rfl rfl (RV_t rfl) ?_
      exact fun w' h => ⟨rfl, h.fr⟩

theorem PathTurns_w (d : List Int) (i b : Int) (w : World) (hl : d.length = 32) (hb : Byt d) :
    Calls Try.prog 8 #[.agg (dg d).toArray, .int .i64 i, .int .i64 b] w fun e w' => e = .returned (.bool true) ∧ Fr [] w w' := by
  by_cases h : (0 ≤ i ∧ i < 256) ∧ (b = 0 ∨ b = 1)
  · exact PathTurns_in d i b w hl hb h.1.1 h.1.2 h.2
  · refine PathTurns_out d i b w hl hb ?_ ?_
    · unfold withE; split <;> (try split) <;> first | decide | omega
    · unfold withV; split <;> (try split) <;> first | exact decide_eq_true rfl | omega

end Go.Proofs.Ytokpnjbfbkphiaa
