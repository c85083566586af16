/- Part 5 of the texts that the law leans on. -/
import Derived.Test.YtfdmjjhgdbpfeaaDoorCBa2
import Derived.Test.YtfdmjjhgdbpfeaaDoorProg
import Derived.Test.YtfdmjjhgdbpfeaaDoorCBa1
import Derived.Test.YtfdmjjhgdbpfeaaDoorCBa4
/- What the functions of layer 2 make of a block. -/
set_option linter.unusedVariables false
set_option linter.unusedSimpArgs false
set_option maxRecDepth 100000
namespace Go.Proofs.YtfdmjjhgdbpfeaaDoor
open Go.Sx
theorem bd8 (a b c d e f g h : Wd) (w : World) : (Instr.build 148 [(0, wv a), (1, wv b), (2, wv c), (3, wv d), (4, wv e), (5, wv f), (6, wv g), (7, wv h)].toArray).run Tryd.prog w = .ok (.agg (wl [a, b, c, d, e, f, g, h]).toArray) w := by kernel_rfl
theorem bdH (r : R8) (w : World) : (Instr.build 157 [(0, .agg (wl r.l).toArray)].toArray).run Tryd.prog w = .ok (.agg (hL r.l (List.replicate 64 0) 0).toArray) w := by kernel_rfl
theorem sz5h : (Tryd.prog.info? 5).map (·.size) = some 1 := by kernel_rfl
theorem sz141h : (Tryd.prog.info? 141).map (·.size) = some 64 := by kernel_rfl
theorem sz147h : (Tryd.prog.info? 147).map (·.size) = some 1 := by kernel_rfl
theorem sz148h : (Tryd.prog.info? 148).map (·.size) = some 8 := by kernel_rfl
theorem sz169h : (Tryd.prog.info? 169).map (·.size) = some 64 := by kernel_rfl
theorem tx97h : Txt Tryd.prog 97 := txt_of Tryd.func97 rfl (by kernel_rfl)
theorem z169h : (Tryd.prog.info? 169).bind (·.zero) = some (.agg (wl (List.replicate 64 0)).toArray) := by kernel_rfl

theorem rotl_w (x : Wd) (k : Nat) (w : World) (h1 : 1 ≤ k) (h2 : k ≤ 31) :
    Calls Tryd.prog 97 #[wv x, .int .i64 (-(k : Int))] w fun e w' => e = .returned (wv (rr k x)) ∧ Fr [] w w' := by
  refine calls_of (args := [wv x, .int .i64 (-(k : Int))]) ([]) ([]) ([]) Tryd.func97 rfl rfl (okW0 _ _ _ _) ?_
  refine J_seq ?_
  refine J_region ?_
  refine L_v rfl rfl rfl (V_assign rfl rfl) ?_
  refine L_nil ?_
  change J _ _ _ _
  refine J_seq ?_
  refine J_region ?_
  refine L_v rfl rfl rfl (V_move rfl rfl) ?_
  refine L_v rfl rfl rfl (V_conv (r := 18446744073709551616 - (k : Int)) rfl rfl Tryd.underlying3 Tryd.underlying170 (by rw [show IntKind.u64.wrap (-(k : Int)) = (-(k : Int)) % 18446744073709551616 by simp [IntKind.wrap, IntKind.bits, IntKind.signed]]; omega)) ?_
  refine L_v rfl rfl rfl (V_and rfl rfl rfl (and31 k (by omega) h1)) ?_
  refine L_v rfl rfl rfl (V_assign rfl rfl) ?_
  refine L_nil ?_
  change J _ _ _ _
  refine J_seq ?_
  refine J_region ?_
  refine L_v rfl rfl rfl (V_move rfl rfl) ?_
  refine L_v rfl rfl rfl (V_move rfl rfl) ?_
  refine L_v rfl rfl rfl (V_shl rfl rfl rfl (by omega) (w_shlk x k h2)) ?_
  refine L_v rfl rfl rfl (V_move rfl rfl) ?_
  refine L_v rfl rfl rfl (V_move rfl rfl) ?_
  refine L_v rfl rfl rfl (V_sub (r := (k : Int)) rfl rfl rfl (by rw [show (32 - (32 - (k : Int))) = k by omega]; exact Go.IntWalk.u64_in _ (by omega))) ?_
  refine L_v rfl rfl rfl (V_shr rfl rfl rfl (by omega) (w_shr x k (by omega))) ?_
  refine L_v rfl rfl rfl (V_or rfl rfl rfl ((w_or _ _).trans (congrArg wi (rr_comm k x)))) ?_
  refine L_v rfl rfl rfl (V_assign rfl rfl) ?_
  refine L_nil ?_
  change J _ _ _ _
  refine J_ret ?_
  change Kret _ _ _ Exit.ret _
  refine ret1 rfl rfl (RV_t rfl) ?_
  exact fun w' h => ⟨rfl, h.fr⟩

theorem turned_w (x : Wd) (k : Nat) (w : World) (h1 : 1 ≤ k) (h2 : k ≤ 31) :
    Calls Tryd.prog 94 #[wv x, .int .i64 (k : Int)] w fun e w' => e = .returned (wv (rr k x)) ∧ Fr [] w w' := by
  refine calls_of (args := [wv x, .int .i64 (k : Int)]) ([]) ([]) ([]) Tryd.func94 rfl rfl (okW0 _ _ _ _) ?_
  refine J_seq ?_
  refine J_region ?_
  refine L_v rfl rfl rfl (V_assign rfl rfl) ?_
  refine L_nil ?_
  change J _ _ _ _
  refine J_seq ?_
  refine J_regionQ rfl (by kernel_rfl) ?_
  refine LQ_v rfl rfl rfl (V_move rfl rfl) ?_
  refine LQ_v rfl rfl rfl (V_move rfl rfl) ?_
  refine LQ_v rfl rfl rfl (V_shr rfl rfl rfl (by omega) (w_shr x k (by omega))) ?_
  refine LQ_v rfl rfl rfl (V_move rfl rfl) ?_
  refine LQ_v rfl rfl rfl (V_move rfl rfl) ?_
  refine LQ_v rfl rfl rfl (V_sub rfl rfl rfl (by first | exact Go.IntWalk.i64_in _ (by omega) | rfl)) ?_
  refine LQ_v rfl rfl rfl (V_shl rfl rfl rfl (by omega) (w_shlk x k h2)) ?_
  refine LQ_v rfl rfl rfl (V_or rfl rfl rfl (w_or _ _)) ?_
  refine LQ_v rfl rfl rfl (V_assign rfl rfl) ?_
  refine LQ_nil ?_
  change J _ _ _ _
  refine J_ret ?_
  change Kret _ _ _ Exit.ret _
  refine ret1 rfl rfl (RV_t rfl) ?_
  exact fun w' h => ⟨rfl, h.fr⟩

theorem mix_w (b : Nat) (ws : R8) (bl : List Int) (n : Int) (w : World) (hb : w.heap[b]? = some (row 157 (hL ws.l bl n))) (hbl : bl.length = 64) (hby : Byt bl) (hK : TabK KT 1 w) (hbg : b ≠ 1) :
    Calls Tryd.prog 86 #[.pointer (some ⟨b, 0, none⟩)] w fun e w' => e = .returned (.tuple #[]) ∧ Fr [b] w w' ∧ w'.heap[b]? = some (row 157 (hL (blk KT ws bl).l bl n)) := by
  refine calls_of (args := [.pointer (some ⟨b, 0, none⟩)]) ([b]) ([(b, row 157 (hL ws.l bl n))]) ([]) Tryd.func86 rfl rfl (okM1 hb (fun f hf => by simp at hf)) ?_
  refine J_seq ?_
  refine J_region ?_
  refine L_alloc rfl rfl rfl rfl z169h (fun b1 => ?_)
  refine L_nil ?_
  change J _ _ _ _
  refine J_seq ?_
  refine J_seq ?_
  refine J_region ?_
  refine L_v rfl rfl rfl (V_move rfl rfl) ?_
  refine L_nil ?_
  change J _ _ _ _
  refine J_block ?_
  refine J_loop (X := Nat) (fun t => { env := [(0, .pointer (some ⟨b, 0, none⟩)), (2, .pointer (some ⟨b1, 0, none⟩)), (25, .int .i64 (t : Int))], mem := [(b, row 157 (hL ws.l bl n)), (b1, row 169 (wl (arr bl t)))] }) (fun t => t ≤ 64) (fun t => 64 - t) 0 (Nat.zero_le _) ⟨⟨rfl, rfl, rfl, trivial⟩, List.Sublist.refl _, fun f hf => hf, rfl⟩ ?_
  rintro t ht
  refine J_seq ?_
  refine J_region ?_
  refine L_v rfl rfl rfl (V_lss rfl rfl rfl (by first | exact decide_eq_true (by omega) | exact decide_eq_false (by omega) | rfl)) ?_
  refine L_nil ?_
  change J _ _ _ _
  refine J_seq ?_
  refine J_cond rfl (fun h1 => ?_) (fun h1 => ?_)
  ·
    first | (have h1 := h1; rw [decide_eq_true_eq] at h1) | (have h1 := h1; rw [decide_eq_false_iff_not] at h1) | skip
    refine J_skip ?_
    change J _ _ _ _
    refine J_seq ?_
    refine J_block ?_
    refine J_seq ?_
    refine J_region ?_
    refine L_v rfl rfl rfl (V_move rfl rfl) ?_
    refine L_v rfl rfl rfl (V_assign rfl rfl) ?_
    refine L_nil ?_
    change J _ _ _ _
    refine J_seq ?_
    refine J_seq ?_
    refine J_region ?_
    refine L_v rfl rfl rfl (V_move rfl rfl) ?_
    refine L_v rfl rfl rfl (V_lss rfl rfl rfl (by first | exact decide_eq_true (by omega) | exact decide_eq_false (by omega) | rfl)) ?_
    refine L_nil ?_
    change J _ _ _ _
    refine J_cond rfl (fun h2 => ?_) (fun h2 => ?_)
    ·
      first | (have h2 := h2; rw [decide_eq_true_eq] at h2) | (have h2 := h2; rw [decide_eq_false_iff_not] at h2) | skip
      have q0 := byt_getD hby (4 * t)
      have q1 := byt_getD hby (4 * t + 1)
      have q2 := byt_getD hby (4 * t + 2)
      have q3 := byt_getD hby (4 * t + 3)
      refine J_seq ?_
      refine J_region ?_
      refine L_v rfl rfl rfl (V_move rfl rfl) ?_
      refine L_v rfl rfl rfl (V_nilCheck rfl rfl) ?_
      refine L_v rfl rfl rfl (V_fieldAddr rfl rfl Tryd.underlying157 rfl sz141h rfl) ?_
      refine L_v rfl rfl rfl (V_move rfl rfl) ?_
      refine L_v rfl rfl rfl (V_mul rfl rfl rfl (by first | exact Go.IntWalk.i64_in _ (by omega) | rfl)) ?_
      refine L_v rfl rfl rfl (V_sliceArrS (l := 4 * t) rfl rfl Tryd.underlying141 sz5h (Bd.at rfl (by omega)) rfl (by omega) (by omega) (by rw [if_neg (by omega)])) ?_
      refine L_v rfl rfl rfl (V_assign rfl rfl) ?_
      refine L_nil ?_
      change J _ _ _ _
      refine J_seq ?_
      refine J_regionT 24 rfl (by kernel_rfl) ?_
      refine LQ_v rfl rfl rfl (V_move rfl rfl) ?_
      refine LQ_v rfl rfl rfl (V_move rfl rfl) ?_
      refine LQ_v rfl rfl rfl (V_indexSl rfl rfl rfl Tryd.underlying57 sz5h (by omega) (by omega) (by first | exact ix0 _ | exact ix1 _ _ | rfl)) ?_
      refine LQ_v rfl rfl rfl (V_load1 0 rfl rfl rfl Tryd.underlying5 rfl (hL_byte (4 * t) rfl (by first | omega | (simp; done) | (simp; omega)) (by omega))) ?_
      refine LQ_v rfl rfl rfl (V_conv rfl rfl Tryd.underlying5 Tryd.underlying147 (Go.IntWalk.u32_in _ (by omega))) ?_
      refine LQ_v rfl rfl rfl (V_shl rfl rfl rfl (by decide) (shl24 q0)) ?_
      refine LQ_v rfl rfl rfl (V_move rfl rfl) ?_
      refine LQ_v rfl rfl rfl (V_indexSl rfl rfl rfl Tryd.underlying57 sz5h (by omega) (by omega) (by first | exact ix0 _ | exact ix1 _ _ | rfl)) ?_
      refine LQ_v rfl rfl rfl (V_load1 0 rfl rfl rfl Tryd.underlying5 rfl (hL_byte (4 * t + 1) rfl (by first | omega | (simp; done) | (simp; omega)) (by omega))) ?_
      refine LQ_v rfl rfl rfl (V_conv rfl rfl Tryd.underlying5 Tryd.underlying147 (Go.IntWalk.u32_in _ (by omega))) ?_
      refine LQ_v rfl rfl rfl (V_shl rfl rfl rfl (by decide) (shl16 q1)) ?_
      refine LQ_v rfl rfl rfl (V_or rfl rfl rfl (or1 q0 q1)) ?_
      refine LQ_v rfl rfl rfl (V_move rfl rfl) ?_
      refine LQ_v rfl rfl rfl (V_indexSl rfl rfl rfl Tryd.underlying57 sz5h (by omega) (by omega) (by first | exact ix0 _ | exact ix1 _ _ | rfl)) ?_
      refine LQ_v rfl rfl rfl (V_load1 0 rfl rfl rfl Tryd.underlying5 rfl (hL_byte (4 * t + 2) rfl (by first | omega | (simp; done) | (simp; omega)) (by omega))) ?_
      refine LQ_v rfl rfl rfl (V_conv rfl rfl Tryd.underlying5 Tryd.underlying147 (Go.IntWalk.u32_in _ (by omega))) ?_
      refine LQ_v rfl rfl rfl (V_shl rfl rfl rfl (by decide) (shl8 q2)) ?_
      refine LQ_v rfl rfl rfl (V_or rfl rfl rfl (or2 q0 q1 q2)) ?_
      refine LQ_v rfl rfl rfl (V_move rfl rfl) ?_
      refine LQ_v rfl rfl rfl (V_indexSl rfl rfl rfl Tryd.underlying57 sz5h (by omega) (by omega) (by first | exact ix0 _ | exact ix1 _ _ | rfl)) ?_
      refine LQ_v rfl rfl rfl (V_load1 0 rfl rfl rfl Tryd.underlying5 rfl (hL_byte (4 * t + 3) rfl (by first | omega | (simp; done) | (simp; omega)) (by omega))) ?_
      refine LQ_v rfl rfl rfl (V_conv rfl rfl Tryd.underlying5 Tryd.underlying147 (Go.IntWalk.u32_in _ (by omega))) ?_
      refine LQ_v rfl rfl rfl (V_or rfl rfl rfl (or3 q0 q1 q2 q3)) ?_
      refine LQ_v rfl rfl rfl (V_indexArr rfl rfl rfl Tryd.underlying169 sz147h (by omega) (by omega) (by first | exact ix0 _ | exact ix1 _ _ | rfl)) ?_
      refine LQ_nil ?_
      refine L_store1 1 rfl rfl rfl rfl rfl rfl rfl sz147h (by first | exact Nat.zero_lt_succ _ | (rw [wl_len, acc_len _ _ _ (by omega)]; omega) | (rw [wl_len, arr_len _ (by omega)]; omega) | (rw [hL_len _ (acc_len _ _ _ (by omega)) hbl]; omega)) rfl ?_
      refine L_nil ?_
      change J _ _ _ _
      refine J_exit ?_
      change J _ _ _ _
      refine J_region ?_
      refine L_v rfl rfl rfl (V_add rfl rfl rfl (by first | exact Go.IntWalk.i64_in _ (by omega) | rfl)) ?_
      refine L_v rfl rfl rfl (V_move rfl rfl) ?_
      refine L_nil ?_
      have e9 : (wl (arr bl t)).set ((t : Nat) : Int).toNat (.int .u32 (bl.getD (4 * t) 0 * 16777216 + bl.getD (4 * t + 1) 0 * 65536 + bl.getD (4 * t + 2) 0 * 256 + bl.getD (4 * t + 3) 0)) = wl (arr bl (t + 1)) := by
        rw [Int.toNat_natCast, show (Value.int .u32 (bl.getD (4 * t) 0 * 16777216 + bl.getD (4 * t + 1) 0 * 65536 + bl.getD (4 * t + 2) 0 * 256 + bl.getD (4 * t + 3) 0)) = wv (if t < 16 then wd bl t else nx (sch bl t) t) from by rw [if_pos (by omega), wi_wd q0 q1 q2 q3], wl_set, arr_set bl (by omega)]
      exact ⟨t + 1, by omega, by omega, ⟨rfl, rfl, rfl, trivial⟩, (by rw [← e9]; exact List.Sublist.refl _), fun f hf => hf, rfl⟩
    ·
      first | (have h2 := h2; rw [decide_eq_true_eq] at h2) | (have h2 := h2; rw [decide_eq_false_iff_not] at h2) | skip
      refine J_skip ?_
      change J _ _ _ _
      refine J_seq ?_
      refine J_regionQ rfl (by kernel_rfl) ?_
      refine LQ_v rfl rfl rfl (V_move rfl rfl) ?_
      refine LQ_v rfl rfl rfl (V_sub rfl rfl rfl (by first | exact Go.IntWalk.i64_in _ (by omega) | rfl)) ?_
      refine LQ_v rfl rfl rfl (V_indexArr rfl rfl rfl Tryd.underlying169 sz147h (by omega) (by omega) (by first | exact ix0 _ | exact ix1 _ _ | rfl)) ?_
      refine LQ_v rfl rfl rfl (V_load1 1 rfl rfl rfl Tryd.underlying147 rfl (wl_get (by omega) (by rw [arr_len _ (by omega)]; omega))) ?_
      refine LQ_v rfl rfl rfl (V_move rfl rfl) ?_
      refine LQ_v rfl rfl rfl (V_sub rfl rfl rfl (by first | exact Go.IntWalk.i64_in _ (by omega) | rfl)) ?_
      refine LQ_v rfl rfl rfl (V_indexArr rfl rfl rfl Tryd.underlying169 sz147h (by omega) (by omega) (by first | exact ix0 _ | exact ix1 _ _ | rfl)) ?_
      refine LQ_v rfl rfl rfl (V_load1 1 rfl rfl rfl Tryd.underlying147 rfl (wl_get (by omega) (by rw [arr_len _ (by omega)]; omega))) ?_
      refine LQ_v rfl rfl rfl (V_assign rfl rfl) ?_
      refine LQ_v rfl rfl rfl (V_assign rfl rfl) ?_
      refine LQ_nil ?_
      change J _ _ _ _
      refine J_seq ?_
      refine J_region ?_
      refine L_v rfl rfl rfl (V_move rfl rfl) ?_
      refine L_callV rfl rfl rfl rfl rfl rfl tx97h (fun w _ => rotl_w _ 7 w (by decide) (by decide)) ?_
      refine L_v rfl rfl rfl (V_move rfl rfl) ?_
      refine L_callV rfl rfl rfl rfl rfl rfl tx97h (fun w _ => rotl_w _ 18 w (by decide) (by decide)) ?_
      refine L_v rfl rfl rfl (V_xor rfl rfl rfl (w_xor _ _)) ?_
      refine L_v rfl rfl rfl (V_move rfl rfl) ?_
      refine L_v rfl rfl rfl (V_shr rfl rfl rfl (by decide) (w_shr _ 3 (by decide))) ?_
      refine L_v rfl rfl rfl (V_xor rfl rfl rfl (w_xor _ _)) ?_
      refine L_v rfl rfl rfl (V_assign rfl rfl) ?_
      refine L_nil ?_
      change J _ _ _ _
      refine J_seq ?_
      refine J_region ?_
      refine L_v rfl rfl rfl (V_move rfl rfl) ?_
      refine L_callV rfl rfl rfl rfl rfl rfl tx97h (fun w _ => rotl_w _ 17 w (by decide) (by decide)) ?_
      refine L_v rfl rfl rfl (V_move rfl rfl) ?_
      refine L_callV rfl rfl rfl rfl rfl rfl tx97h (fun w _ => rotl_w _ 19 w (by decide) (by decide)) ?_
      refine L_v rfl rfl rfl (V_xor rfl rfl rfl (w_xor _ _)) ?_
      refine L_v rfl rfl rfl (V_move rfl rfl) ?_
      refine L_v rfl rfl rfl (V_shr rfl rfl rfl (by decide) (w_shr _ 10 (by decide))) ?_
      refine L_v rfl rfl rfl (V_xor rfl rfl rfl (w_xor _ _)) ?_
      refine L_v rfl rfl rfl (V_assign rfl rfl) ?_
      refine L_nil ?_
      change J _ _ _ _
      refine J_regionT 15 rfl (by kernel_rfl) ?_
      refine LQ_v rfl rfl rfl (V_move rfl rfl) ?_
      refine LQ_v rfl rfl rfl (V_move rfl rfl) ?_
      refine LQ_v rfl rfl rfl (V_sub rfl rfl rfl (by first | exact Go.IntWalk.i64_in _ (by omega) | rfl)) ?_
      refine LQ_v rfl rfl rfl (V_indexArr rfl rfl rfl Tryd.underlying169 sz147h (by omega) (by omega) (by first | exact ix0 _ | exact ix1 _ _ | rfl)) ?_
      refine LQ_v rfl rfl rfl (V_load1 1 rfl rfl rfl Tryd.underlying147 rfl (wl_get (by omega) (by rw [arr_len _ (by omega)]; omega))) ?_
      refine LQ_v rfl rfl rfl (V_move rfl rfl) ?_
      refine LQ_v rfl rfl rfl (V_add rfl rfl rfl (w_add _ _)) ?_
      refine LQ_v rfl rfl rfl (V_move rfl rfl) ?_
      refine LQ_v rfl rfl rfl (V_sub rfl rfl rfl (by first | exact Go.IntWalk.i64_in _ (by omega) | rfl)) ?_
      refine LQ_v rfl rfl rfl (V_indexArr rfl rfl rfl Tryd.underlying169 sz147h (by omega) (by omega) (by first | exact ix0 _ | exact ix1 _ _ | rfl)) ?_
      refine LQ_v rfl rfl rfl (V_load1 1 rfl rfl rfl Tryd.underlying147 rfl (wl_get (by omega) (by rw [arr_len _ (by omega)]; omega))) ?_
      refine LQ_v rfl rfl rfl (V_add rfl rfl rfl (w_add _ _)) ?_
      refine LQ_v rfl rfl rfl (V_move rfl rfl) ?_
      refine LQ_v rfl rfl rfl (V_add rfl rfl rfl (w_add _ _)) ?_
      refine LQ_v rfl rfl rfl (V_indexArr rfl rfl rfl Tryd.underlying169 sz147h (by omega) (by omega) (by first | exact ix0 _ | exact ix1 _ _ | rfl)) ?_
      refine LQ_nil ?_
      refine L_store1 1 rfl rfl rfl rfl rfl rfl rfl sz147h (by first | exact Nat.zero_lt_succ _ | (rw [wl_len, acc_len _ _ _ (by omega)]; omega) | (rw [wl_len, arr_len _ (by omega)]; omega) | (rw [hL_len _ (acc_len _ _ _ (by omega)) hbl]; omega)) rfl ?_
      refine L_nil ?_
      change J _ _ _ _
      refine J_region ?_
      refine L_v rfl rfl rfl (V_add rfl rfl rfl (by first | exact Go.IntWalk.i64_in _ (by omega) | rfl)) ?_
      refine L_v rfl rfl rfl (V_move rfl rfl) ?_
      refine L_nil ?_
      have e9 : (wl (arr bl t)).set ((t : Nat) : Int).toNat (.int .u32 (wi (nw (arr bl t) ((t : Int) - 16) + s0 (nw (arr bl t) ((t : Int) - 15)) + nw (arr bl t) ((t : Int) - 7) + s1 (nw (arr bl t) ((t : Int) - 2))))) = wl (arr bl (t + 1)) := by
        rw [Int.toNat_natCast, show (Value.int .u32 (wi (nw (arr bl t) ((t : Int) - 16) + s0 (nw (arr bl t) ((t : Int) - 15)) + nw (arr bl t) ((t : Int) - 7) + s1 (nw (arr bl t) ((t : Int) - 2))))) = wv (if t < 16 then wd bl t else nx (sch bl t) t) from by rw [if_neg (by omega), arr_get bl (j := t - 16) (by omega) (by omega), arr_get bl (j := t - 15) (by omega) (by omega), arr_get bl (j := t - 7) (by omega) (by omega), arr_get bl (j := t - 2) (by omega) (by omega)]; rfl, wl_set, arr_set bl (by omega)]
      exact ⟨t + 1, by omega, by omega, ⟨rfl, rfl, rfl, trivial⟩, (by rw [← e9]; exact List.Sublist.refl _), fun f hf => hf, rfl⟩
  ·
    first | (have h1 := h1; rw [decide_eq_true_eq] at h1) | (have h1 := h1; rw [decide_eq_false_iff_not] at h1) | skip
    obtain rfl : t = 64 := by omega
    refine J_exit ?_
    change J _ _ _ _
    refine J_seq ?_
    refine J_regionQ rfl (by kernel_rfl) ?_
    refine LQ_v rfl rfl rfl (V_move rfl rfl) ?_
    refine LQ_v rfl rfl rfl (V_nilCheck rfl rfl) ?_
    refine LQ_v rfl rfl rfl (V_fieldAddr rfl rfl Tryd.underlying157 rfl sz148h rfl) ?_
    refine LQ_v rfl rfl rfl (V_indexArr rfl rfl rfl Tryd.underlying148 sz147h (by omega) (by omega) (by first | exact ix0 _ | exact ix1 _ _ | rfl)) ?_
    refine LQ_v rfl rfl rfl (V_load1 0 rfl rfl rfl Tryd.underlying147 rfl (by first | rfl | exact wl_get (by omega) (by omega))) ?_
    refine LQ_v rfl rfl rfl (V_move rfl rfl) ?_
    refine LQ_v rfl rfl rfl (V_nilCheck rfl rfl) ?_
    refine LQ_v rfl rfl rfl (V_fieldAddr rfl rfl Tryd.underlying157 rfl sz148h rfl) ?_
    refine LQ_v rfl rfl rfl (V_indexArr rfl rfl rfl Tryd.underlying148 sz147h (by omega) (by omega) (by first | exact ix0 _ | exact ix1 _ _ | rfl)) ?_
    refine LQ_v rfl rfl rfl (V_load1 0 rfl rfl rfl Tryd.underlying147 rfl (by first | rfl | exact wl_get (by omega) (by omega))) ?_
    refine LQ_v rfl rfl rfl (V_move rfl rfl) ?_
    refine LQ_v rfl rfl rfl (V_nilCheck rfl rfl) ?_
    refine LQ_v rfl rfl rfl (V_fieldAddr rfl rfl Tryd.underlying157 rfl sz148h rfl) ?_
    refine LQ_v rfl rfl rfl (V_indexArr rfl rfl rfl Tryd.underlying148 sz147h (by omega) (by omega) (by first | exact ix0 _ | exact ix1 _ _ | rfl)) ?_
    refine LQ_v rfl rfl rfl (V_load1 0 rfl rfl rfl Tryd.underlying147 rfl (by first | rfl | exact wl_get (by omega) (by omega))) ?_
    refine LQ_v rfl rfl rfl (V_move rfl rfl) ?_
    refine LQ_v rfl rfl rfl (V_nilCheck rfl rfl) ?_
    refine LQ_v rfl rfl rfl (V_fieldAddr rfl rfl Tryd.underlying157 rfl sz148h rfl) ?_
    refine LQ_v rfl rfl rfl (V_indexArr rfl rfl rfl Tryd.underlying148 sz147h (by omega) (by omega) (by first | exact ix0 _ | exact ix1 _ _ | rfl)) ?_
    refine LQ_v rfl rfl rfl (V_load1 0 rfl rfl rfl Tryd.underlying147 rfl (by first | rfl | exact wl_get (by omega) (by omega))) ?_
    refine LQ_v rfl rfl rfl (V_move rfl rfl) ?_
    refine LQ_v rfl rfl rfl (V_nilCheck rfl rfl) ?_
    refine LQ_v rfl rfl rfl (V_fieldAddr rfl rfl Tryd.underlying157 rfl sz148h rfl) ?_
    refine LQ_v rfl rfl rfl (V_indexArr rfl rfl rfl Tryd.underlying148 sz147h (by omega) (by omega) (by first | exact ix0 _ | exact ix1 _ _ | rfl)) ?_
    refine LQ_v rfl rfl rfl (V_load1 0 rfl rfl rfl Tryd.underlying147 rfl (by first | rfl | exact wl_get (by omega) (by omega))) ?_
    refine LQ_v rfl rfl rfl (V_move rfl rfl) ?_
    refine LQ_v rfl rfl rfl (V_nilCheck rfl rfl) ?_
    refine LQ_v rfl rfl rfl (V_fieldAddr rfl rfl Tryd.underlying157 rfl sz148h rfl) ?_
    refine LQ_v rfl rfl rfl (V_indexArr rfl rfl rfl Tryd.underlying148 sz147h (by omega) (by omega) (by first | exact ix0 _ | exact ix1 _ _ | rfl)) ?_
    refine LQ_v rfl rfl rfl (V_load1 0 rfl rfl rfl Tryd.underlying147 rfl (by first | rfl | exact wl_get (by omega) (by omega))) ?_
    refine LQ_v rfl rfl rfl (V_move rfl rfl) ?_
    refine LQ_v rfl rfl rfl (V_nilCheck rfl rfl) ?_
    refine LQ_v rfl rfl rfl (V_fieldAddr rfl rfl Tryd.underlying157 rfl sz148h rfl) ?_
    refine LQ_v rfl rfl rfl (V_indexArr rfl rfl rfl Tryd.underlying148 sz147h (by omega) (by omega) (by first | exact ix0 _ | exact ix1 _ _ | rfl)) ?_
    refine LQ_v rfl rfl rfl (V_load1 0 rfl rfl rfl Tryd.underlying147 rfl (by first | rfl | exact wl_get (by omega) (by omega))) ?_
    refine LQ_v rfl rfl rfl (V_move rfl rfl) ?_
    refine LQ_v rfl rfl rfl (V_nilCheck rfl rfl) ?_
    refine LQ_v rfl rfl rfl (V_fieldAddr rfl rfl Tryd.underlying157 rfl sz148h rfl) ?_
    refine LQ_v rfl rfl rfl (V_indexArr rfl rfl rfl Tryd.underlying148 sz147h (by omega) (by omega) (by first | exact ix0 _ | exact ix1 _ _ | rfl)) ?_
    refine LQ_v rfl rfl rfl (V_load1 0 rfl rfl rfl Tryd.underlying147 rfl (by first | rfl | exact wl_get (by omega) (by omega))) ?_
    refine LQ_v rfl rfl rfl (V_assign rfl rfl) ?_
    refine LQ_v rfl rfl rfl (V_assign rfl rfl) ?_
    refine LQ_v rfl rfl rfl (V_assign rfl rfl) ?_
    refine LQ_v rfl rfl rfl (V_assign rfl rfl) ?_
    refine LQ_v rfl rfl rfl (V_assign rfl rfl) ?_
    refine LQ_v rfl rfl rfl (V_assign rfl rfl) ?_
    refine LQ_v rfl rfl rfl (V_assign rfl rfl) ?_
    refine LQ_v rfl rfl rfl (V_assign rfl rfl) ?_
    refine LQ_nil ?_
    change J _ _ _ _
    refine J_seq ?_
    refine J_seq ?_
    refine J_region ?_
    refine L_v rfl rfl rfl (V_loadW 1 rfl rfl rfl Tryd.underlying169 rfl (szd sz169h (by rw [wl_len, arr_len _ (by omega)]))) ?_
    refine L_v rfl rfl rfl (V_move rfl rfl) ?_
    refine L_nil ?_
    change J _ _ _ _
    refine J_block ?_
    refine J_loop (X := Nat) (fun t => { env := [(0, .pointer (some ⟨b, 0, none⟩)), (9, wv (rnd KT (arr bl 64) ws t).a), (10, wv (rnd KT (arr bl 64) ws t).b), (11, wv (rnd KT (arr bl 64) ws t).c), (12, wv (rnd KT (arr bl 64) ws t).d), (13, wv (rnd KT (arr bl 64) ws t).e), (14, wv (rnd KT (arr bl 64) ws t).f), (15, wv (rnd KT (arr bl 64) ws t).g), (16, wv (rnd KT (arr bl 64) ws t).h), (140, .agg (wl (arr bl 64)).toArray), (141, .int .i64 (t : Int))], mem := [(b, row 157 (hL ws.l bl n))] }) (fun t => t ≤ 64) (fun t => 64 - t) 0 (Nat.zero_le _) ⟨⟨rfl, rfl, rfl, rfl, rfl, rfl, rfl, rfl, rfl, rfl, rfl, trivial⟩, List.Sublist.cons_cons _ (List.nil_sublist _), fun f hf => hf, rfl⟩ ?_
    rintro t ht
    refine J_seq ?_
    refine J_region ?_
    refine L_v rfl rfl rfl (V_lss rfl rfl rfl (by first | exact decide_eq_true (by omega) | exact decide_eq_false (by omega) | rfl)) ?_
    refine L_nil ?_
    change J _ _ _ _
    refine J_seq ?_
    refine J_cond rfl (fun h2 => ?_) (fun h2 => ?_)
    ·
      first | (have h2 := h2; rw [decide_eq_true_eq] at h2) | (have h2 := h2; rw [decide_eq_false_iff_not] at h2) | skip
      refine J_skip ?_
      change J _ _ _ _
      refine J_seq ?_
      refine J_block ?_
      refine J_seq ?_
      refine J_region ?_
      refine L_v rfl rfl rfl (V_move rfl rfl) ?_
      refine L_v rfl rfl rfl (V_indexA rfl rfl rfl Tryd.underlying169 sz147h Tryd.underlying147 rfl (by omega) (by omega) (by rw [Nat.mul_one]; exact wl_get (by omega) (by rw [arr_len _ (by omega)]; omega))) ?_
      refine L_v rfl rfl rfl (V_assign rfl rfl) ?_
      refine L_v rfl rfl rfl (V_assign rfl rfl) ?_
      refine L_nil ?_
      change J _ _ _ _
      refine J_seq ?_
      refine J_region ?_
      refine L_v rfl rfl rfl (V_move rfl rfl) ?_
      refine L_callV rfl rfl rfl rfl rfl rfl tx97h (fun w _ => rotl_w _ 6 w (by decide) (by decide)) ?_
      refine L_v rfl rfl rfl (V_move rfl rfl) ?_
      refine L_callV rfl rfl rfl rfl rfl rfl tx97h (fun w _ => rotl_w _ 11 w (by decide) (by decide)) ?_
      refine L_v rfl rfl rfl (V_xor rfl rfl rfl (w_xor _ _)) ?_
      refine L_v rfl rfl rfl (V_move rfl rfl) ?_
      refine L_callV rfl rfl rfl rfl rfl rfl tx97h (fun w _ => rotl_w _ 25 w (by decide) (by decide)) ?_
      refine L_v rfl rfl rfl (V_xor rfl rfl rfl (w_xor _ _)) ?_
      refine L_v rfl rfl rfl (V_assign rfl rfl) ?_
      refine L_nil ?_
      change J _ _ _ _
      refine J_seq ?_
      refine J_region ?_
      refine L_v rfl rfl rfl (V_move rfl rfl) ?_
      refine L_v rfl rfl rfl (V_move rfl rfl) ?_
      refine L_v rfl rfl rfl (V_add rfl rfl rfl (w_add _ _)) ?_
      refine L_v rfl rfl rfl (V_move rfl rfl) ?_
      refine L_v rfl rfl rfl (V_move rfl rfl) ?_
      refine L_v rfl rfl rfl (V_move rfl rfl) ?_
      refine L_v rfl rfl rfl (V_xor rfl rfl rfl (w_xor _ _)) ?_
      refine L_v rfl rfl rfl (V_and rfl rfl rfl (w_and _ _)) ?_
      refine L_v rfl rfl rfl (V_move rfl rfl) ?_
      refine L_v rfl rfl rfl (V_xor rfl rfl rfl (w_xor _ _)) ?_
      refine L_v rfl rfl rfl (V_add rfl rfl rfl (w_add _ _)) ?_
      refine L_v rfl rfl rfl (V_move rfl rfl) ?_
      refine L_v rfl rfl rfl (V_indexArr rfl rfl rfl Tryd.underlying169 sz147h (by omega) (by omega) (by rw [Int.toNat_natCast, Nat.zero_add, Nat.mul_one])) ?_
      refine L_v rfl rfl rfl (V_load rfl rfl Tryd.underlying147 rfl (fun w hw => TabK.later hw (by intro hx; simp at hx; exact hbg hx.symm) hK t (by omega))) ?_
      refine L_v rfl rfl rfl (V_add rfl rfl rfl (w_add _ _)) ?_
      refine L_v rfl rfl rfl (V_move rfl rfl) ?_
      refine L_v rfl rfl rfl (V_add rfl rfl rfl (w_add _ _)) ?_
      refine L_v rfl rfl rfl (V_assign rfl rfl) ?_
      refine L_nil ?_
      change J _ _ _ _
      refine J_seq ?_
      refine J_region ?_
      refine L_v rfl rfl rfl (V_move rfl rfl) ?_
      refine L_callV rfl rfl rfl rfl rfl rfl tx97h (fun w _ => rotl_w _ 2 w (by decide) (by decide)) ?_
      refine L_v rfl rfl rfl (V_move rfl rfl) ?_
      refine L_callV rfl rfl rfl rfl rfl rfl tx97h (fun w _ => rotl_w _ 13 w (by decide) (by decide)) ?_
      refine L_v rfl rfl rfl (V_xor rfl rfl rfl (w_xor _ _)) ?_
      refine L_v rfl rfl rfl (V_move rfl rfl) ?_
      refine L_callV rfl rfl rfl rfl rfl rfl tx97h (fun w _ => rotl_w _ 22 w (by decide) (by decide)) ?_
      refine L_v rfl rfl rfl (V_xor rfl rfl rfl (w_xor _ _)) ?_
      refine L_v rfl rfl rfl (V_assign rfl rfl) ?_
      refine L_nil ?_
      change J _ _ _ _
      refine J_seq ?_
      refine J_region ?_
      refine L_v rfl rfl rfl (V_move rfl rfl) ?_
      refine L_v rfl rfl rfl (V_move rfl rfl) ?_
      refine L_v rfl rfl rfl (V_move rfl rfl) ?_
      refine L_v rfl rfl rfl (V_and rfl rfl rfl (w_and _ _)) ?_
      refine L_v rfl rfl rfl (V_move rfl rfl) ?_
      refine L_v rfl rfl rfl (V_move rfl rfl) ?_
      refine L_v rfl rfl rfl (V_move rfl rfl) ?_
      refine L_v rfl rfl rfl (V_or rfl rfl rfl (w_or _ _)) ?_
      refine L_v rfl rfl rfl (V_and rfl rfl rfl (w_and _ _)) ?_
      refine L_v rfl rfl rfl (V_or rfl rfl rfl (w_or _ _)) ?_
      refine L_v rfl rfl rfl (V_add rfl rfl rfl (w_add _ _)) ?_
      refine L_v rfl rfl rfl (V_assign rfl rfl) ?_
      refine L_nil ?_
      change J _ _ _ _
      refine J_region ?_
      refine L_v rfl rfl rfl (V_move rfl rfl) ?_
      refine L_v rfl rfl rfl (V_move rfl rfl) ?_
      refine L_v rfl rfl rfl (V_add rfl rfl rfl (w_add _ _)) ?_
      refine L_v rfl rfl rfl (V_move rfl rfl) ?_
      refine L_v rfl rfl rfl (V_move rfl rfl) ?_
      refine L_v rfl rfl rfl (V_move rfl rfl) ?_
      refine L_v rfl rfl rfl (V_move rfl rfl) ?_
      refine L_v rfl rfl rfl (V_move rfl rfl) ?_
      refine L_v rfl rfl rfl (V_add rfl rfl rfl (w_add _ _)) ?_
      refine L_v rfl rfl rfl (V_move rfl rfl) ?_
      refine L_v rfl rfl rfl (V_move rfl rfl) ?_
      refine L_v rfl rfl rfl (V_move rfl rfl) ?_
      refine L_v rfl rfl rfl (V_assign rfl rfl) ?_
      refine L_v rfl rfl rfl (V_assign rfl rfl) ?_
      refine L_v rfl rfl rfl (V_assign rfl rfl) ?_
      refine L_v rfl rfl rfl (V_assign rfl rfl) ?_
      refine L_v rfl rfl rfl (V_assign rfl rfl) ?_
      refine L_v rfl rfl rfl (V_assign rfl rfl) ?_
      refine L_v rfl rfl rfl (V_assign rfl rfl) ?_
      refine L_v rfl rfl rfl (V_assign rfl rfl) ?_
      refine L_nil ?_
      change J _ _ _ _
      refine J_region ?_
      refine L_v rfl rfl rfl (V_add rfl rfl rfl (by first | exact Go.IntWalk.i64_in _ (by omega) | rfl)) ?_
      refine L_v rfl rfl rfl (V_move rfl rfl) ?_
      refine L_nil ?_
      exact ⟨t + 1, by omega, by omega, ⟨rfl, rfl, rfl, rfl, rfl, rfl, rfl, rfl, rfl, rfl, rfl, trivial⟩, List.Sublist.refl _, fun f hf => hf, rfl⟩
    ·
      first | (have h2 := h2; rw [decide_eq_true_eq] at h2) | (have h2 := h2; rw [decide_eq_false_iff_not] at h2) | skip
      obtain rfl : t = 64 := by omega
      have hblk : blk KT ws bl = ws.add (rnd KT (arr bl 64) ws 64) := by unfold blk; rw [arr_end]
      obtain ⟨R, hR⟩ : ∃ R, rnd KT (arr bl 64) ws 64 = R := ⟨_, rfl⟩
      rw [hR]
      refine J_exit ?_
      change J _ _ _ _
      refine J_seq ?_
      refine J_region ?_
      refine L_v rfl rfl rfl (V_move rfl rfl) ?_
      refine L_v rfl rfl rfl (V_move rfl rfl) ?_
      refine L_v rfl rfl rfl (V_move rfl rfl) ?_
      refine L_v rfl rfl rfl (V_move rfl rfl) ?_
      refine L_v rfl rfl rfl (V_move rfl rfl) ?_
      refine L_v rfl rfl rfl (V_move rfl rfl) ?_
      refine L_v rfl rfl rfl (V_move rfl rfl) ?_
      refine L_v rfl rfl rfl (V_move rfl rfl) ?_
      refine L_v rfl rfl rfl (V_build (vs := [(0, wv R.a), (1, wv R.b), (2, wv R.c), (3, wv R.d), (4, wv R.e), (5, wv R.f), (6, wv R.g), (7, wv R.h)]) rfl rfl (bd8 _ _ _ _ _ _ _ _)) ?_
      refine L_v rfl rfl rfl (V_move rfl rfl) ?_
      refine L_nil ?_
      change J _ _ _ _
      refine J_block ?_
      refine J_loop (X := Nat) (fun i => { env := [(0, .pointer (some ⟨b, 0, none⟩)), (210, .agg (wl R.l).toArray), (211, .int .i64 (i : Int))], mem := [(b, row 157 (hL (acc ws R i) bl n))] }) (fun i => i ≤ 8) (fun i => 8 - i) 0 (Nat.zero_le _) ⟨⟨rfl, rfl, rfl, trivial⟩, (by subst hR; exact List.Sublist.refl _), fun f hf => hf, rfl⟩ ?_
      rintro i hi
      refine J_seq ?_
      refine J_region ?_
      refine L_v rfl rfl rfl (V_lss rfl rfl rfl (by first | exact decide_eq_true (by omega) | exact decide_eq_false (by omega) | rfl)) ?_
      refine L_nil ?_
      change J _ _ _ _
      refine J_seq ?_
      refine J_cond rfl (fun h3 => ?_) (fun h3 => ?_)
      ·
        first | (have h3 := h3; rw [decide_eq_true_eq] at h3) | (have h3 := h3; rw [decide_eq_false_iff_not] at h3) | skip
        refine J_skip ?_
        change J _ _ _ _
        refine J_seq ?_
        refine J_block ?_
        refine J_seq ?_
        refine J_region ?_
        refine L_v rfl rfl rfl (V_move rfl rfl) ?_
        refine L_v rfl rfl rfl (V_indexA rfl rfl rfl Tryd.underlying148 sz147h Tryd.underlying147 rfl (by omega) (by omega) (by rw [Nat.mul_one]; exact wl_get (by omega) (by show _ < ((8 : Nat) : Int); omega))) ?_
        refine L_v rfl rfl rfl (V_assign rfl rfl) ?_
        refine L_v rfl rfl rfl (V_assign rfl rfl) ?_
        refine L_nil ?_
        change J _ _ _ _
        refine J_regionT 11 rfl (by kernel_rfl) ?_
        refine LQ_v rfl rfl rfl (V_move rfl rfl) ?_
        refine LQ_v rfl rfl rfl (V_move rfl rfl) ?_
        refine LQ_v rfl rfl rfl (V_nilCheck rfl rfl) ?_
        refine LQ_v rfl rfl rfl (V_fieldAddr rfl rfl Tryd.underlying157 rfl sz148h rfl) ?_
        refine LQ_v rfl rfl rfl (V_indexArr (off' := i) rfl rfl rfl Tryd.underlying148 sz147h (by omega) (by omega) (show 0 + 0 + ((i : Nat) : Int).toNat * 1 = i by rw [Int.toNat_natCast]; omega)) ?_
        refine LQ_v rfl rfl rfl (V_load1 0 rfl rfl rfl Tryd.underlying147 rfl (hL_word (by rw [acc_len _ _ _ (by omega)]; omega))) ?_
        refine LQ_v rfl rfl rfl (V_move rfl rfl) ?_
        refine LQ_v rfl rfl rfl (V_add rfl rfl rfl (w_add _ _)) ?_
        refine LQ_v rfl rfl rfl (V_nilCheck rfl rfl) ?_
        refine LQ_v rfl rfl rfl (V_fieldAddr rfl rfl Tryd.underlying157 rfl sz148h rfl) ?_
        refine LQ_v rfl rfl rfl (V_indexArr (off' := i) rfl rfl rfl Tryd.underlying148 sz147h (by omega) (by omega) (show 0 + 0 + ((i : Nat) : Int).toNat * 1 = i by rw [Int.toNat_natCast]; omega)) ?_
        refine LQ_nil ?_
        refine L_store1 0 rfl rfl rfl rfl rfl rfl rfl sz147h (by first | exact Nat.zero_lt_succ _ | (rw [wl_len, acc_len _ _ _ (by omega)]; omega) | (rw [wl_len, arr_len _ (by omega)]; omega) | (rw [hL_len _ (acc_len _ _ _ (by omega)) hbl]; omega)) rfl ?_
        refine L_nil ?_
        change J _ _ _ _
        refine J_region ?_
        refine L_v rfl rfl rfl (V_add rfl rfl rfl (by first | exact Go.IntWalk.i64_in _ (by omega) | rfl)) ?_
        refine L_v rfl rfl rfl (V_move rfl rfl) ?_
        refine L_nil ?_
        have e9 := acc_set ws R i (by omega)
        exact ⟨i + 1, by omega, by omega, ⟨rfl, rfl, rfl, trivial⟩, (by rw [← e9, ← hL_setw (by rw [acc_len _ _ _ (by omega)]; omega)]; exact List.Sublist.refl _), fun f hf => hf, rfl⟩
      ·
        first | (have h3 := h3; rw [decide_eq_true_eq] at h3) | (have h3 := h3; rw [decide_eq_false_iff_not] at h3) | skip
        refine J_exit ?_
        change Kret _ _ _ Exit.normal _
        refine Kret_normal ?_
        refine ret0 rfl rfl  ?_
        obtain rfl : i = 8 := by omega
        exact fun w' h => ⟨rfl, h.fr, by rw [hblk, hR]; exact h.at (i := 0) rfl⟩

end Go.Proofs.YtfdmjjhgdbpfeaaDoor

/- What the reference of layer 2 makes of a block. -/
set_option linter.unusedVariables false
set_option linter.unusedSimpArgs false
set_option maxRecDepth 100000
namespace Go.Proofs.YtfdmjjhgdbpfeaaDoor
open Go.Sx
theorem bdB (w : World) : (Instr.build 148 [(0, .int .u32 1779033703), (1, .int .u32 3144134277), (2, .int .u32 1013904242), (3, .int .u32 2773480762), (4, .int .u32 1359893119), (5, .int .u32 2600822924), (6, .int .u32 528734635), (7, .int .u32 1541459225)].toArray).run Tryd.prog w = .ok (.agg (wl R0.l).toArray) w := by kernel_rfl
theorem sz5i : (Tryd.prog.info? 5).map (·.size) = some 1 := by kernel_rfl
theorem sz147i : (Tryd.prog.info? 147).map (·.size) = some 1 := by kernel_rfl
theorem sz148i : (Tryd.prog.info? 148).map (·.size) = some 8 := by kernel_rfl
theorem tx94i : Txt Tryd.prog 94 := txt_of Tryd.func94 rfl (by kernel_rfl)
theorem z148i : (Tryd.prog.info? 148).bind (·.zero) = some (.agg (wl (List.replicate 8 0)).toArray) := by kernel_rfl
theorem z169i : (Tryd.prog.info? 169).bind (·.zero) = some (.agg (wl (List.replicate 64 0)).toArray) := by kernel_rfl

theorem begin_w (w : World) :
    Calls Tryd.prog 79 #[] w fun e w' => e = .returned (.agg (wl R0.l).toArray) ∧ Fr [] w w' := by
  refine calls_of (args := []) ([]) ([]) ([]) Tryd.func79 rfl rfl (okW0 _ _ _ _) ?_
  refine J_seq ?_
  refine J_region ?_
  refine L_alloc rfl rfl rfl rfl z148i (fun b0 => ?_)
  refine L_nil ?_
  change J _ _ _ _
  refine J_seq ?_
  refine J_region ?_
  refine L_v rfl rfl rfl (V_build (vs := [(0, .int .u32 1779033703), (1, .int .u32 3144134277), (2, .int .u32 1013904242), (3, .int .u32 2773480762), (4, .int .u32 1359893119), (5, .int .u32 2600822924), (6, .int .u32 528734635), (7, .int .u32 1541459225)]) rfl rfl bdB) ?_
  refine L_storeW 0 rfl rfl rfl rfl rfl rfl (szd sz148i (by first | (rw [wl_len]; rfl) | (rw [wl_len, acc_len _ _ _ (by omega)]))) (by first | exact wl_one _ | exact hL_one _ _ _ | exact dg_one _) (by first | (rw [wl_len]; rfl) | (rw [wl_len, acc_len _ _ _ (by omega)])) ?_
  refine L_nil ?_
  change J _ _ _ _
  refine J_ret ?_
  change Kret _ _ _ Exit.ret _
  refine ret1 rfl rfl (RV_c 0 rfl rfl Tryd.underlying148 rfl (szd sz148i (by first | (rw [wl_len]; rfl) | (rw [wl_len, acc_len _ _ _ (by omega)])))) ?_
  exact fun w' h => ⟨rfl, h.fr⟩

theorem hnew_w (w : World) :
    Calls Tryd.prog 59 #[] w fun e w' => ∃ b, e = .returned (.pointer (some ⟨b, 0, none⟩)) ∧ Fr [] w w' ∧ w.heap.size ≤ b ∧ w'.heap[b]? = some (row 157 (hL R0.l (List.replicate 64 0) 0)) := by
  refine calls_of (args := []) ([]) ([]) ([]) Tryd.func59 rfl rfl (okW0 _ _ _ _) ?_
  refine J_seq ?_
  refine J_region ?_
  refine L_v rfl rfl rfl (V_assign rfl rfl) ?_
  refine L_nil ?_
  change J _ _ _ _
  refine J_seq ?_
  refine J_region ?_
  refine L_v rfl rfl rfl (V_build (vs := [(0, .int .u32 1779033703), (1, .int .u32 3144134277), (2, .int .u32 1013904242), (3, .int .u32 2773480762), (4, .int .u32 1359893119), (5, .int .u32 2600822924), (6, .int .u32 528734635), (7, .int .u32 1541459225)]) rfl rfl bdB) ?_
  refine L_v rfl rfl rfl (V_build (vs := [(0, .agg (wl R0.l).toArray)]) rfl rfl (bdH R0)) ?_
  refine L_box rfl rfl rfl rfl rfl (fun b0 => ?_)
  refine L_v rfl rfl rfl (V_assign rfl rfl) ?_
  refine L_nil ?_
  change J _ _ _ _
  refine J_ret ?_
  change Kret _ _ _ Exit.ret _
  refine ret1 rfl rfl (RV_t rfl) ?_
  exact fun w' h => ⟨b0, rfl, h.fr, (by simpa using h.may b0 (List.mem_singleton.2 rfl)), h.at (i := 0) rfl⟩

theorem block_w (ws : R8) (a : Option Addr) (n c : Nat) (bl : List Int) (w : World) (hu : SlB w (.slice a n c) bl) (hbl : bl.length = 64) (hby : Byt bl) (hK : TabK KT 0 w) :
    Calls Tryd.prog 80 #[.agg (wl ws.l).toArray, .slice a n c] w fun e w' => e = .returned (.agg (wl (blk KT ws bl).l).toArray) ∧ Fr [] w w' := by
  have hsz := hu.size
  refine calls_of (args := [.agg (wl ws.l).toArray, .slice a n c]) ([]) ([]) ([]) Tryd.func80 rfl rfl (okW0 _ _ _ _) ?_
  refine J_seq ?_
  refine J_region ?_
  refine L_box rfl rfl rfl rfl rfl (fun b0 => ?_)
  refine L_alloc rfl rfl rfl rfl z148i (fun b1 => ?_)
  refine L_nil ?_
  change J _ _ _ _
  refine J_seq ?_
  refine J_region ?_
  refine L_alloc rfl rfl rfl rfl z169i (fun b2 => ?_)
  refine L_nil ?_
  change J _ _ _ _
  refine J_seq ?_
  refine J_seq ?_
  refine J_region ?_
  refine L_v rfl rfl rfl (V_assign rfl rfl) ?_
  refine L_nil ?_
  change J _ _ _ _
  refine J_block ?_
  refine J_loop (X := Nat) (fun t => { env := [(1, .slice a n c), (2, .pointer (some ⟨b0, 0, none⟩)), (4, .pointer (some ⟨b1, 0, none⟩)), (5, .pointer (some ⟨b2, 0, none⟩)), (6, .int .i64 (t : Int))], mem := [(b0, row 148 (wl ws.l)), (b1, row 148 (wl (List.replicate 8 0))), (b2, row 169 (wl (arr bl t)))] }) (fun t => t ≤ 16) (fun t => 16 - t) 0 (Nat.zero_le _) ⟨⟨rfl, rfl, rfl, rfl, rfl, trivial⟩, List.Sublist.refl _, fun f hf => hf, rfl⟩ ?_
  rintro t ht
  refine J_seq ?_
  refine J_seq ?_
  refine J_region ?_
  refine L_v rfl rfl rfl (V_move rfl rfl) ?_
  refine L_v rfl rfl rfl (V_lss rfl rfl rfl (by first | exact decide_eq_true (by omega) | exact decide_eq_false (by omega) | rfl)) ?_
  refine L_nil ?_
  change J _ _ _ _
  refine J_cond rfl (fun h1 => ?_) (fun h1 => ?_)
  ·
    first | (have h1 := h1; rw [decide_eq_true_eq] at h1) | (have h1 := h1; rw [decide_eq_false_iff_not] at h1) | skip
    have q0 := byt_getD hby (4 * t)
    have q1 := byt_getD hby (4 * t + 1)
    have q2 := byt_getD hby (4 * t + 2)
    have q3 := byt_getD hby (4 * t + 3)
    have g0 : bl.getD (4 * (t : Int)).toNat 0 = bl.getD (4 * t) 0 := by congr 1 <;> omega
    have g1 : bl.getD (4 * (t : Int) + 1).toNat 0 = bl.getD (4 * t + 1) 0 := by congr 1 <;> omega
    have g2 : bl.getD (4 * (t : Int) + 2).toNat 0 = bl.getD (4 * t + 2) 0 := by congr 1 <;> omega
    have g3 : bl.getD (4 * (t : Int) + 3).toNat 0 = bl.getD (4 * t + 3) 0 := by congr 1 <;> omega
    refine J_skip ?_
    change J _ _ _ _
    refine J_seq ?_
    refine J_block ?_
    refine J_regionT 35 rfl (by kernel_rfl) ?_
    refine LQ_v rfl rfl rfl (V_move rfl rfl) ?_
    refine LQ_v rfl rfl rfl (V_move rfl rfl) ?_
    refine LQ_v rfl rfl rfl (V_move rfl rfl) ?_
    refine LQ_v rfl rfl rfl (V_mul rfl rfl rfl (by first | exact Go.IntWalk.i64_in _ (by omega) | rfl)) ?_
    refine LQ_v rfl rfl rfl (V_indexB rfl rfl rfl Tryd.underlying57 sz5i (fun w hw => SlB.later hw rfl hu) (by omega) (by omega)) ?_
    refine LQ_v rfl rfl rfl (V_loadB rfl rfl Tryd.underlying5 rfl (fun w hw => SlB.later hw rfl hu) (by omega) (by first | exact g0 | exact g1 | exact g2 | exact g3)) ?_
    refine LQ_v rfl rfl rfl (V_conv rfl rfl Tryd.underlying5 Tryd.underlying147 (Go.IntWalk.u32_in _ (by omega))) ?_
    refine LQ_v rfl rfl rfl (V_shl rfl rfl rfl (by decide) (shl24 q0)) ?_
    refine LQ_v rfl rfl rfl (V_move rfl rfl) ?_
    refine LQ_v rfl rfl rfl (V_move rfl rfl) ?_
    refine LQ_v rfl rfl rfl (V_mul rfl rfl rfl (by first | exact Go.IntWalk.i64_in _ (by omega) | rfl)) ?_
    refine LQ_v rfl rfl rfl (V_add rfl rfl rfl (by first | exact Go.IntWalk.i64_in _ (by omega) | rfl)) ?_
    refine LQ_v rfl rfl rfl (V_indexB rfl rfl rfl Tryd.underlying57 sz5i (fun w hw => SlB.later hw rfl hu) (by omega) (by omega)) ?_
    refine LQ_v rfl rfl rfl (V_loadB rfl rfl Tryd.underlying5 rfl (fun w hw => SlB.later hw rfl hu) (by omega) (by first | exact g0 | exact g1 | exact g2 | exact g3)) ?_
    refine LQ_v rfl rfl rfl (V_conv rfl rfl Tryd.underlying5 Tryd.underlying147 (Go.IntWalk.u32_in _ (by omega))) ?_
    refine LQ_v rfl rfl rfl (V_shl rfl rfl rfl (by decide) (shl16 q1)) ?_
    refine LQ_v rfl rfl rfl (V_add rfl rfl rfl (Go.IntWalk.u32_in _ (by omega))) ?_
    refine LQ_v rfl rfl rfl (V_move rfl rfl) ?_
    refine LQ_v rfl rfl rfl (V_move rfl rfl) ?_
    refine LQ_v rfl rfl rfl (V_mul rfl rfl rfl (by first | exact Go.IntWalk.i64_in _ (by omega) | rfl)) ?_
    refine LQ_v rfl rfl rfl (V_add rfl rfl rfl (by first | exact Go.IntWalk.i64_in _ (by omega) | rfl)) ?_
    refine LQ_v rfl rfl rfl (V_indexB rfl rfl rfl Tryd.underlying57 sz5i (fun w hw => SlB.later hw rfl hu) (by omega) (by omega)) ?_
    refine LQ_v rfl rfl rfl (V_loadB rfl rfl Tryd.underlying5 rfl (fun w hw => SlB.later hw rfl hu) (by omega) (by first | exact g0 | exact g1 | exact g2 | exact g3)) ?_
    refine LQ_v rfl rfl rfl (V_conv rfl rfl Tryd.underlying5 Tryd.underlying147 (Go.IntWalk.u32_in _ (by omega))) ?_
    refine LQ_v rfl rfl rfl (V_shl rfl rfl rfl (by decide) (shl8 q2)) ?_
    refine LQ_v rfl rfl rfl (V_add rfl rfl rfl (Go.IntWalk.u32_in _ (by omega))) ?_
    refine LQ_v rfl rfl rfl (V_move rfl rfl) ?_
    refine LQ_v rfl rfl rfl (V_move rfl rfl) ?_
    refine LQ_v rfl rfl rfl (V_mul rfl rfl rfl (by first | exact Go.IntWalk.i64_in _ (by omega) | rfl)) ?_
    refine LQ_v rfl rfl rfl (V_add rfl rfl rfl (by first | exact Go.IntWalk.i64_in _ (by omega) | rfl)) ?_
    refine LQ_v rfl rfl rfl (V_indexB rfl rfl rfl Tryd.underlying57 sz5i (fun w hw => SlB.later hw rfl hu) (by omega) (by omega)) ?_
    refine LQ_v rfl rfl rfl (V_loadB rfl rfl Tryd.underlying5 rfl (fun w hw => SlB.later hw rfl hu) (by omega) (by first | exact g0 | exact g1 | exact g2 | exact g3)) ?_
    refine LQ_v rfl rfl rfl (V_conv rfl rfl Tryd.underlying5 Tryd.underlying147 (Go.IntWalk.u32_in _ (by omega))) ?_
    refine LQ_v rfl rfl rfl (V_add rfl rfl rfl (Go.IntWalk.u32_in _ (by omega))) ?_
    refine LQ_v rfl rfl rfl (V_indexArr rfl rfl rfl Tryd.underlying169 sz147i (by omega) (by omega) (by first | exact ix0 _ | exact ix1 _ _ | rfl)) ?_
    refine LQ_nil ?_
    refine L_store1 2 rfl rfl rfl rfl rfl rfl rfl sz147i (by first | exact Nat.zero_lt_succ _ | (rw [wl_len, acc_len _ _ _ (by omega)]; omega) | (rw [wl_len, arr_len _ (by omega)]; omega) | (rw [hL_len _ (acc_len _ _ _ (by omega)) hbl]; omega)) rfl ?_
    refine L_nil ?_
    change J _ _ _ _
    refine J_region ?_
    refine L_v rfl rfl rfl (V_move rfl rfl) ?_
    refine L_v rfl rfl rfl (V_add rfl rfl rfl (by first | exact Go.IntWalk.i64_in _ (by omega) | rfl)) ?_
    refine L_v rfl rfl rfl (V_assign rfl rfl) ?_
    refine L_nil ?_
    have e9 : (wl (arr bl t)).set ((t : Nat) : Int).toNat (.int .u32 (bl.getD (4 * t) 0 * 16777216 + bl.getD (4 * t + 1) 0 * 65536 + bl.getD (4 * t + 2) 0 * 256 + bl.getD (4 * t + 3) 0)) = wl (arr bl (t + 1)) := by
      rw [Int.toNat_natCast, show (Value.int .u32 (bl.getD (4 * t) 0 * 16777216 + bl.getD (4 * t + 1) 0 * 65536 + bl.getD (4 * t + 2) 0 * 256 + bl.getD (4 * t + 3) 0)) = wv (if t < 16 then wd bl t else nx (sch bl t) t) from by rw [if_pos (by omega), wi_wd q0 q1 q2 q3], wl_set, arr_set bl (by omega)]
    exact ⟨t + 1, by omega, by omega, ⟨rfl, rfl, rfl, rfl, rfl, trivial⟩, (by rw [← e9]; exact List.Sublist.refl _), fun f hf => hf, rfl⟩
  ·
    first | (have h1 := h1; rw [decide_eq_true_eq] at h1) | (have h1 := h1; rw [decide_eq_false_iff_not] at h1) | skip
    obtain rfl : t = 16 := by omega
    refine J_exit ?_
    change J _ _ _ _
    refine J_seq ?_
    refine J_seq ?_
    refine J_region ?_
    refine L_v rfl rfl rfl (V_assign rfl rfl) ?_
    refine L_nil ?_
    change J _ _ _ _
    refine J_block ?_
    refine J_loop (X := Nat) (fun t => { env := [(2, .pointer (some ⟨b0, 0, none⟩)), (4, .pointer (some ⟨b1, 0, none⟩)), (5, .pointer (some ⟨b2, 0, none⟩)), (7, .int .i64 (t : Int))], mem := [(b0, row 148 (wl ws.l)), (b1, row 148 (wl (List.replicate 8 0))), (b2, row 169 (wl (arr bl t)))] }) (fun t => 16 ≤ t ∧ t ≤ 64) (fun t => 64 - t) 16 ⟨Nat.le_refl _, by decide⟩ ⟨⟨rfl, rfl, rfl, rfl, trivial⟩, List.Sublist.refl _, fun f hf => hf, rfl⟩ ?_
    rintro t ⟨ht1, ht⟩
    refine J_seq ?_
    refine J_seq ?_
    refine J_region ?_
    refine L_v rfl rfl rfl (V_move rfl rfl) ?_
    refine L_v rfl rfl rfl (V_lss rfl rfl rfl (by first | exact decide_eq_true (by omega) | exact decide_eq_false (by omega) | rfl)) ?_
    refine L_nil ?_
    change J _ _ _ _
    refine J_cond rfl (fun h2 => ?_) (fun h2 => ?_)
    ·
      first | (have h2 := h2; rw [decide_eq_true_eq] at h2) | (have h2 := h2; rw [decide_eq_false_iff_not] at h2) | skip
      refine J_skip ?_
      change J _ _ _ _
      refine J_seq ?_
      refine J_block ?_
      refine J_seq ?_
      refine J_regionQ rfl (by kernel_rfl) ?_
      refine LQ_v rfl rfl rfl (V_move rfl rfl) ?_
      refine LQ_v rfl rfl rfl (V_sub rfl rfl rfl (by first | exact Go.IntWalk.i64_in _ (by omega) | rfl)) ?_
      refine LQ_v rfl rfl rfl (V_indexArr rfl rfl rfl Tryd.underlying169 sz147i (by omega) (by omega) (by first | exact ix0 _ | exact ix1 _ _ | rfl)) ?_
      refine LQ_v rfl rfl rfl (V_load1 2 rfl rfl rfl Tryd.underlying147 rfl (wl_get (by omega) (by rw [arr_len _ (by omega)]; omega))) ?_
      refine LQ_callV rfl rfl rfl rfl rfl rfl tx94i (fun w _ => turned_w _ 7 w (by decide) (by decide)) ?_
      refine LQ_v rfl rfl rfl (V_move rfl rfl) ?_
      refine LQ_v rfl rfl rfl (V_sub rfl rfl rfl (by first | exact Go.IntWalk.i64_in _ (by omega) | rfl)) ?_
      refine LQ_v rfl rfl rfl (V_indexArr rfl rfl rfl Tryd.underlying169 sz147i (by omega) (by omega) (by first | exact ix0 _ | exact ix1 _ _ | rfl)) ?_
      refine LQ_v rfl rfl rfl (V_load1 2 rfl rfl rfl Tryd.underlying147 rfl (wl_get (by omega) (by rw [arr_len _ (by omega)]; omega))) ?_
      refine LQ_callV rfl rfl rfl rfl rfl rfl tx94i (fun w _ => turned_w _ 18 w (by decide) (by decide)) ?_
      refine LQ_v rfl rfl rfl (V_xor rfl rfl rfl (w_xor _ _)) ?_
      refine LQ_v rfl rfl rfl (V_move rfl rfl) ?_
      refine LQ_v rfl rfl rfl (V_sub rfl rfl rfl (by first | exact Go.IntWalk.i64_in _ (by omega) | rfl)) ?_
      refine LQ_v rfl rfl rfl (V_indexArr rfl rfl rfl Tryd.underlying169 sz147i (by omega) (by omega) (by first | exact ix0 _ | exact ix1 _ _ | rfl)) ?_
      refine LQ_v rfl rfl rfl (V_load1 2 rfl rfl rfl Tryd.underlying147 rfl (wl_get (by omega) (by rw [arr_len _ (by omega)]; omega))) ?_
      refine LQ_v rfl rfl rfl (V_shr rfl rfl rfl (by decide) (w_shr _ 3 (by decide))) ?_
      refine LQ_v rfl rfl rfl (V_xor rfl rfl rfl (w_xor _ _)) ?_
      refine LQ_v rfl rfl rfl (V_assign rfl rfl) ?_
      refine LQ_nil ?_
      change J _ _ _ _
      refine J_seq ?_
      refine J_regionQ rfl (by kernel_rfl) ?_
      refine LQ_v rfl rfl rfl (V_move rfl rfl) ?_
      refine LQ_v rfl rfl rfl (V_sub rfl rfl rfl (by first | exact Go.IntWalk.i64_in _ (by omega) | rfl)) ?_
      refine LQ_v rfl rfl rfl (V_indexArr rfl rfl rfl Tryd.underlying169 sz147i (by omega) (by omega) (by first | exact ix0 _ | exact ix1 _ _ | rfl)) ?_
      refine LQ_v rfl rfl rfl (V_load1 2 rfl rfl rfl Tryd.underlying147 rfl (wl_get (by omega) (by rw [arr_len _ (by omega)]; omega))) ?_
      refine LQ_callV rfl rfl rfl rfl rfl rfl tx94i (fun w _ => turned_w _ 17 w (by decide) (by decide)) ?_
      refine LQ_v rfl rfl rfl (V_move rfl rfl) ?_
      refine LQ_v rfl rfl rfl (V_sub rfl rfl rfl (by first | exact Go.IntWalk.i64_in _ (by omega) | rfl)) ?_
      refine LQ_v rfl rfl rfl (V_indexArr rfl rfl rfl Tryd.underlying169 sz147i (by omega) (by omega) (by first | exact ix0 _ | exact ix1 _ _ | rfl)) ?_
      refine LQ_v rfl rfl rfl (V_load1 2 rfl rfl rfl Tryd.underlying147 rfl (wl_get (by omega) (by rw [arr_len _ (by omega)]; omega))) ?_
      refine LQ_callV rfl rfl rfl rfl rfl rfl tx94i (fun w _ => turned_w _ 19 w (by decide) (by decide)) ?_
      refine LQ_v rfl rfl rfl (V_xor rfl rfl rfl (w_xor _ _)) ?_
      refine LQ_v rfl rfl rfl (V_move rfl rfl) ?_
      refine LQ_v rfl rfl rfl (V_sub rfl rfl rfl (by first | exact Go.IntWalk.i64_in _ (by omega) | rfl)) ?_
      refine LQ_v rfl rfl rfl (V_indexArr rfl rfl rfl Tryd.underlying169 sz147i (by omega) (by omega) (by first | exact ix0 _ | exact ix1 _ _ | rfl)) ?_
      refine LQ_v rfl rfl rfl (V_load1 2 rfl rfl rfl Tryd.underlying147 rfl (wl_get (by omega) (by rw [arr_len _ (by omega)]; omega))) ?_
      refine LQ_v rfl rfl rfl (V_shr rfl rfl rfl (by decide) (w_shr _ 10 (by decide))) ?_
      refine LQ_v rfl rfl rfl (V_xor rfl rfl rfl (w_xor _ _)) ?_
      refine LQ_v rfl rfl rfl (V_assign rfl rfl) ?_
      refine LQ_nil ?_
      change J _ _ _ _
      refine J_regionT 15 rfl (by kernel_rfl) ?_
      refine LQ_v rfl rfl rfl (V_move rfl rfl) ?_
      refine LQ_v rfl rfl rfl (V_move rfl rfl) ?_
      refine LQ_v rfl rfl rfl (V_move rfl rfl) ?_
      refine LQ_v rfl rfl rfl (V_sub rfl rfl rfl (by first | exact Go.IntWalk.i64_in _ (by omega) | rfl)) ?_
      refine LQ_v rfl rfl rfl (V_indexArr rfl rfl rfl Tryd.underlying169 sz147i (by omega) (by omega) (by first | exact ix0 _ | exact ix1 _ _ | rfl)) ?_
      refine LQ_v rfl rfl rfl (V_load1 2 rfl rfl rfl Tryd.underlying147 rfl (wl_get (by omega) (by rw [arr_len _ (by omega)]; omega))) ?_
      refine LQ_v rfl rfl rfl (V_add rfl rfl rfl (w_add _ _)) ?_
      refine LQ_v rfl rfl rfl (V_move rfl rfl) ?_
      refine LQ_v rfl rfl rfl (V_add rfl rfl rfl (w_add _ _)) ?_
      refine LQ_v rfl rfl rfl (V_move rfl rfl) ?_
      refine LQ_v rfl rfl rfl (V_sub rfl rfl rfl (by first | exact Go.IntWalk.i64_in _ (by omega) | rfl)) ?_
      refine LQ_v rfl rfl rfl (V_indexArr rfl rfl rfl Tryd.underlying169 sz147i (by omega) (by omega) (by first | exact ix0 _ | exact ix1 _ _ | rfl)) ?_
      refine LQ_v rfl rfl rfl (V_load1 2 rfl rfl rfl Tryd.underlying147 rfl (wl_get (by omega) (by rw [arr_len _ (by omega)]; omega))) ?_
      refine LQ_v rfl rfl rfl (V_add rfl rfl rfl (w_add _ _)) ?_
      refine LQ_v rfl rfl rfl (V_indexArr rfl rfl rfl Tryd.underlying169 sz147i (by omega) (by omega) (by first | exact ix0 _ | exact ix1 _ _ | rfl)) ?_
      refine LQ_nil ?_
      refine L_store1 2 rfl rfl rfl rfl rfl rfl rfl sz147i (by first | exact Nat.zero_lt_succ _ | (rw [wl_len, acc_len _ _ _ (by omega)]; omega) | (rw [wl_len, arr_len _ (by omega)]; omega) | (rw [hL_len _ (acc_len _ _ _ (by omega)) hbl]; omega)) rfl ?_
      refine L_nil ?_
      change J _ _ _ _
      refine J_region ?_
      refine L_v rfl rfl rfl (V_move rfl rfl) ?_
      refine L_v rfl rfl rfl (V_add rfl rfl rfl (by first | exact Go.IntWalk.i64_in _ (by omega) | rfl)) ?_
      refine L_v rfl rfl rfl (V_assign rfl rfl) ?_
      refine L_nil ?_
      have e9 : (wl (arr bl t)).set ((t : Nat) : Int).toNat (.int .u32 (wi (s1 (nw (arr bl t) ((t : Int) - 2)) + nw (arr bl t) ((t : Int) - 7) + s0 (nw (arr bl t) ((t : Int) - 15)) + nw (arr bl t) ((t : Int) - 16)))) = wl (arr bl (t + 1)) := by
        rw [Int.toNat_natCast, show (Value.int .u32 (wi (s1 (nw (arr bl t) ((t : Int) - 2)) + nw (arr bl t) ((t : Int) - 7) + s0 (nw (arr bl t) ((t : Int) - 15)) + nw (arr bl t) ((t : Int) - 16)))) = wv (if t < 16 then wd bl t else nx (sch bl t) t) from by rw [if_neg (by omega), arr_get bl (j := t - 2) (by omega) (by omega), arr_get bl (j := t - 7) (by omega) (by omega), arr_get bl (j := t - 15) (by omega) (by omega), arr_get bl (j := t - 16) (by omega) (by omega), nx_ref], wl_set, arr_set bl (by omega)]
      exact ⟨t + 1, ⟨by omega, by omega⟩, by omega, ⟨rfl, rfl, rfl, rfl, trivial⟩, (by rw [← e9]; exact List.Sublist.refl _), fun f hf => hf, rfl⟩
    ·
      first | (have h2 := h2; rw [decide_eq_true_eq] at h2) | (have h2 := h2; rw [decide_eq_false_iff_not] at h2) | skip
      obtain rfl : t = 64 := by omega
      refine J_exit ?_
      change J _ _ _ _
      refine J_seq ?_
      refine J_region ?_
      refine L_v rfl rfl rfl (V_loadW 0 rfl rfl rfl Tryd.underlying148 rfl (szd sz148i (by first | (rw [wl_len]; rfl) | (rw [wl_len, acc_len _ _ _ (by omega)])))) ?_
      refine L_alloc rfl rfl rfl rfl z148i (fun b3 => ?_)
      refine L_storeW 3 rfl rfl rfl rfl rfl rfl (szd sz148i (by first | (rw [wl_len]; rfl) | (rw [wl_len, acc_len _ _ _ (by omega)]))) (by first | exact wl_one _ | exact hL_one _ _ _ | exact dg_one _) (by first | (rw [wl_len]; rfl) | (rw [wl_len, acc_len _ _ _ (by omega)])) ?_
      refine L_nil ?_
      change J _ _ _ _
      refine J_seq ?_
      refine J_seq ?_
      refine J_region ?_
      refine L_v rfl rfl rfl (V_assign rfl rfl) ?_
      refine L_nil ?_
      change J _ _ _ _
      refine J_block ?_
      refine J_loop (X := Nat) (fun t => { env := [(2, .pointer (some ⟨b0, 0, none⟩)), (4, .pointer (some ⟨b1, 0, none⟩)), (5, .pointer (some ⟨b2, 0, none⟩)), (10, .pointer (some ⟨b3, 0, none⟩)), (11, .int .i64 (t : Int))], mem := [(b0, row 148 (wl ws.l)), (b1, row 148 (wl (List.replicate 8 0))), (b2, row 169 (wl (arr bl 64))), (b3, row 148 (wl (rnd KT (arr bl 64) ws t).l))] }) (fun t => t ≤ 64) (fun t => 64 - t) 0 (Nat.zero_le _) ⟨⟨rfl, rfl, rfl, rfl, rfl, trivial⟩, List.Sublist.refl _, fun f hf => hf, rfl⟩ ?_
      rintro t ht
      refine J_seq ?_
      refine J_seq ?_
      refine J_region ?_
      refine L_v rfl rfl rfl (V_move rfl rfl) ?_
      refine L_v rfl rfl rfl (V_lss rfl rfl rfl (by first | exact decide_eq_true (by omega) | exact decide_eq_false (by omega) | rfl)) ?_
      refine L_nil ?_
      change J _ _ _ _
      refine J_cond rfl (fun h3 => ?_) (fun h3 => ?_)
      ·
        first | (have h3 := h3; rw [decide_eq_true_eq] at h3) | (have h3 := h3; rw [decide_eq_false_iff_not] at h3) | skip
        refine J_skip ?_
        change J _ _ _ _
        refine J_seq ?_
        refine J_block ?_
        refine J_seq ?_
        refine J_regionQ rfl (by kernel_rfl) ?_
        refine LQ_v rfl rfl rfl (V_indexArr rfl rfl rfl Tryd.underlying148 sz147i (by omega) (by omega) (by first | exact ix0 _ | exact ix1 _ _ | rfl)) ?_
        refine LQ_v rfl rfl rfl (V_load1 3 rfl rfl rfl Tryd.underlying147 rfl (by first | rfl | exact wl_get (by omega) (by omega))) ?_
        refine LQ_callV rfl rfl rfl rfl rfl rfl tx94i (fun w _ => turned_w _ 6 w (by decide) (by decide)) ?_
        refine LQ_v rfl rfl rfl (V_indexArr rfl rfl rfl Tryd.underlying148 sz147i (by omega) (by omega) (by first | exact ix0 _ | exact ix1 _ _ | rfl)) ?_
        refine LQ_v rfl rfl rfl (V_load1 3 rfl rfl rfl Tryd.underlying147 rfl (by first | rfl | exact wl_get (by omega) (by omega))) ?_
        refine LQ_callV rfl rfl rfl rfl rfl rfl tx94i (fun w _ => turned_w _ 11 w (by decide) (by decide)) ?_
        refine LQ_v rfl rfl rfl (V_xor rfl rfl rfl (w_xor _ _)) ?_
        refine LQ_v rfl rfl rfl (V_indexArr rfl rfl rfl Tryd.underlying148 sz147i (by omega) (by omega) (by first | exact ix0 _ | exact ix1 _ _ | rfl)) ?_
        refine LQ_v rfl rfl rfl (V_load1 3 rfl rfl rfl Tryd.underlying147 rfl (by first | rfl | exact wl_get (by omega) (by omega))) ?_
        refine LQ_callV rfl rfl rfl rfl rfl rfl tx94i (fun w _ => turned_w _ 25 w (by decide) (by decide)) ?_
        refine LQ_v rfl rfl rfl (V_xor rfl rfl rfl (w_xor _ _)) ?_
        refine LQ_v rfl rfl rfl (V_assign rfl rfl) ?_
        refine LQ_nil ?_
        change J _ _ _ _
        refine J_seq ?_
        refine J_regionQ rfl (by kernel_rfl) ?_
        refine LQ_v rfl rfl rfl (V_indexArr rfl rfl rfl Tryd.underlying148 sz147i (by omega) (by omega) (by first | exact ix0 _ | exact ix1 _ _ | rfl)) ?_
        refine LQ_v rfl rfl rfl (V_load1 3 rfl rfl rfl Tryd.underlying147 rfl (by first | rfl | exact wl_get (by omega) (by omega))) ?_
        refine LQ_callV rfl rfl rfl rfl rfl rfl tx94i (fun w _ => turned_w _ 2 w (by decide) (by decide)) ?_
        refine LQ_v rfl rfl rfl (V_indexArr rfl rfl rfl Tryd.underlying148 sz147i (by omega) (by omega) (by first | exact ix0 _ | exact ix1 _ _ | rfl)) ?_
        refine LQ_v rfl rfl rfl (V_load1 3 rfl rfl rfl Tryd.underlying147 rfl (by first | rfl | exact wl_get (by omega) (by omega))) ?_
        refine LQ_callV rfl rfl rfl rfl rfl rfl tx94i (fun w _ => turned_w _ 13 w (by decide) (by decide)) ?_
        refine LQ_v rfl rfl rfl (V_xor rfl rfl rfl (w_xor _ _)) ?_
        refine LQ_v rfl rfl rfl (V_indexArr rfl rfl rfl Tryd.underlying148 sz147i (by omega) (by omega) (by first | exact ix0 _ | exact ix1 _ _ | rfl)) ?_
        refine LQ_v rfl rfl rfl (V_load1 3 rfl rfl rfl Tryd.underlying147 rfl (by first | rfl | exact wl_get (by omega) (by omega))) ?_
        refine LQ_callV rfl rfl rfl rfl rfl rfl tx94i (fun w _ => turned_w _ 22 w (by decide) (by decide)) ?_
        refine LQ_v rfl rfl rfl (V_xor rfl rfl rfl (w_xor _ _)) ?_
        refine LQ_v rfl rfl rfl (V_assign rfl rfl) ?_
        refine LQ_nil ?_
        change J _ _ _ _
        refine J_seq ?_
        refine J_regionQ rfl (by kernel_rfl) ?_
        refine LQ_v rfl rfl rfl (V_indexArr rfl rfl rfl Tryd.underlying148 sz147i (by omega) (by omega) (by first | exact ix0 _ | exact ix1 _ _ | rfl)) ?_
        refine LQ_v rfl rfl rfl (V_load1 3 rfl rfl rfl Tryd.underlying147 rfl (by first | rfl | exact wl_get (by omega) (by omega))) ?_
        refine LQ_v rfl rfl rfl (V_move rfl rfl) ?_
        refine LQ_v rfl rfl rfl (V_add rfl rfl rfl (w_add _ _)) ?_
        refine LQ_v rfl rfl rfl (V_indexArr rfl rfl rfl Tryd.underlying148 sz147i (by omega) (by omega) (by first | exact ix0 _ | exact ix1 _ _ | rfl)) ?_
        refine LQ_v rfl rfl rfl (V_load1 3 rfl rfl rfl Tryd.underlying147 rfl (by first | rfl | exact wl_get (by omega) (by omega))) ?_
        refine LQ_v rfl rfl rfl (V_indexArr rfl rfl rfl Tryd.underlying148 sz147i (by omega) (by omega) (by first | exact ix0 _ | exact ix1 _ _ | rfl)) ?_
        refine LQ_v rfl rfl rfl (V_load1 3 rfl rfl rfl Tryd.underlying147 rfl (by first | rfl | exact wl_get (by omega) (by omega))) ?_
        refine LQ_v rfl rfl rfl (V_and rfl rfl rfl (w_and _ _)) ?_
        refine LQ_v rfl rfl rfl (V_indexArr rfl rfl rfl Tryd.underlying148 sz147i (by omega) (by omega) (by first | exact ix0 _ | exact ix1 _ _ | rfl)) ?_
        refine LQ_v rfl rfl rfl (V_load1 3 rfl rfl rfl Tryd.underlying147 rfl (by first | rfl | exact wl_get (by omega) (by omega))) ?_
        refine LQ_v rfl rfl rfl (V_com rfl rfl (w_not _)) ?_
        refine LQ_v rfl rfl rfl (V_indexArr rfl rfl rfl Tryd.underlying148 sz147i (by omega) (by omega) (by first | exact ix0 _ | exact ix1 _ _ | rfl)) ?_
        refine LQ_v rfl rfl rfl (V_load1 3 rfl rfl rfl Tryd.underlying147 rfl (by first | rfl | exact wl_get (by omega) (by omega))) ?_
        refine LQ_v rfl rfl rfl (V_and rfl rfl rfl (w_and _ _)) ?_
        refine LQ_v rfl rfl rfl (V_xor rfl rfl rfl ((w_xor _ _).trans (congrArg wi (ch_eq _ _ _)))) ?_
        refine LQ_v rfl rfl rfl (V_add rfl rfl rfl (w_add _ _)) ?_
        refine LQ_v rfl rfl rfl (V_move rfl rfl) ?_
        refine LQ_v rfl rfl rfl (V_indexArr rfl rfl rfl Tryd.underlying169 sz147i (by omega) (by omega) (by rw [Int.toNat_natCast, Nat.zero_add, Nat.mul_one])) ?_
        refine LQ_v rfl rfl rfl (V_load rfl rfl Tryd.underlying147 rfl (fun w hw => TabK.later hw (by simp) hK t (by omega))) ?_
        refine LQ_v rfl rfl rfl (V_add rfl rfl rfl (w_add _ _)) ?_
        refine LQ_v rfl rfl rfl (V_move rfl rfl) ?_
        refine LQ_v rfl rfl rfl (V_indexArr rfl rfl rfl Tryd.underlying169 sz147i (by omega) (by omega) (by first | exact ix0 _ | exact ix1 _ _ | rfl)) ?_
        refine LQ_v rfl rfl rfl (V_load1 2 rfl rfl rfl Tryd.underlying147 rfl (wl_get (by omega) (by rw [arr_len _ (by omega)]; omega))) ?_
        refine LQ_v rfl rfl rfl (V_add rfl rfl rfl (w_add _ _)) ?_
        refine LQ_v rfl rfl rfl (V_assign rfl rfl) ?_
        refine LQ_nil ?_
        change J _ _ _ _
        refine J_seq ?_
        refine J_region ?_
        refine L_v rfl rfl rfl (V_move rfl rfl) ?_
        refine L_v rfl rfl rfl (V_indexArr rfl rfl rfl Tryd.underlying148 sz147i (by omega) (by omega) (by first | exact ix0 _ | exact ix1 _ _ | rfl)) ?_
        refine L_v rfl rfl rfl (V_load1 3 rfl rfl rfl Tryd.underlying147 rfl (by first | rfl | exact wl_get (by omega) (by omega))) ?_
        refine L_v rfl rfl rfl (V_indexArr rfl rfl rfl Tryd.underlying148 sz147i (by omega) (by omega) (by first | exact ix0 _ | exact ix1 _ _ | rfl)) ?_
        refine L_v rfl rfl rfl (V_load1 3 rfl rfl rfl Tryd.underlying147 rfl (by first | rfl | exact wl_get (by omega) (by omega))) ?_
        refine L_v rfl rfl rfl (V_and rfl rfl rfl (w_and _ _)) ?_
        refine L_v rfl rfl rfl (V_indexArr rfl rfl rfl Tryd.underlying148 sz147i (by omega) (by omega) (by first | exact ix0 _ | exact ix1 _ _ | rfl)) ?_
        refine L_v rfl rfl rfl (V_load1 3 rfl rfl rfl Tryd.underlying147 rfl (by first | rfl | exact wl_get (by omega) (by omega))) ?_
        refine L_v rfl rfl rfl (V_indexArr rfl rfl rfl Tryd.underlying148 sz147i (by omega) (by omega) (by first | exact ix0 _ | exact ix1 _ _ | rfl)) ?_
        refine L_v rfl rfl rfl (V_load1 3 rfl rfl rfl Tryd.underlying147 rfl (by first | rfl | exact wl_get (by omega) (by omega))) ?_
        refine L_v rfl rfl rfl (V_and rfl rfl rfl (w_and _ _)) ?_
        refine L_v rfl rfl rfl (V_xor rfl rfl rfl (w_xor _ _)) ?_
        refine L_v rfl rfl rfl (V_indexArr rfl rfl rfl Tryd.underlying148 sz147i (by omega) (by omega) (by first | exact ix0 _ | exact ix1 _ _ | rfl)) ?_
        refine L_v rfl rfl rfl (V_load1 3 rfl rfl rfl Tryd.underlying147 rfl (by first | rfl | exact wl_get (by omega) (by omega))) ?_
        refine L_v rfl rfl rfl (V_indexArr rfl rfl rfl Tryd.underlying148 sz147i (by omega) (by omega) (by first | exact ix0 _ | exact ix1 _ _ | rfl)) ?_
        refine L_v rfl rfl rfl (V_load1 3 rfl rfl rfl Tryd.underlying147 rfl (by first | rfl | exact wl_get (by omega) (by omega))) ?_
        refine L_v rfl rfl rfl (V_and rfl rfl rfl (w_and _ _)) ?_
        refine L_v rfl rfl rfl (V_xor rfl rfl rfl ((w_xor _ _).trans (congrArg wi (mj_eq _ _ _)))) ?_
        refine L_v rfl rfl rfl (V_add rfl rfl rfl (w_add _ _)) ?_
        refine L_v rfl rfl rfl (V_assign rfl rfl) ?_
        refine L_nil ?_
        change J _ _ _ _
        refine J_region ?_
        refine L_v rfl rfl rfl (V_move rfl rfl) ?_
        refine L_v rfl rfl rfl (V_move rfl rfl) ?_
        refine L_v rfl rfl rfl (V_add rfl rfl rfl (w_add _ _)) ?_
        refine L_v rfl rfl rfl (V_indexArr rfl rfl rfl Tryd.underlying148 sz147i (by omega) (by omega) (by first | exact ix0 _ | exact ix1 _ _ | rfl)) ?_
        refine L_v rfl rfl rfl (V_load1 3 rfl rfl rfl Tryd.underlying147 rfl (by first | rfl | exact wl_get (by omega) (by omega))) ?_
        refine L_v rfl rfl rfl (V_indexArr rfl rfl rfl Tryd.underlying148 sz147i (by omega) (by omega) (by first | exact ix0 _ | exact ix1 _ _ | rfl)) ?_
        refine L_v rfl rfl rfl (V_load1 3 rfl rfl rfl Tryd.underlying147 rfl (by first | rfl | exact wl_get (by omega) (by omega))) ?_
        refine L_v rfl rfl rfl (V_indexArr rfl rfl rfl Tryd.underlying148 sz147i (by omega) (by omega) (by first | exact ix0 _ | exact ix1 _ _ | rfl)) ?_
        refine L_v rfl rfl rfl (V_load1 3 rfl rfl rfl Tryd.underlying147 rfl (by first | rfl | exact wl_get (by omega) (by omega))) ?_
        refine L_v rfl rfl rfl (V_indexArr rfl rfl rfl Tryd.underlying148 sz147i (by omega) (by omega) (by first | exact ix0 _ | exact ix1 _ _ | rfl)) ?_
        refine L_v rfl rfl rfl (V_load1 3 rfl rfl rfl Tryd.underlying147 rfl (by first | rfl | exact wl_get (by omega) (by omega))) ?_
        refine L_v rfl rfl rfl (V_move rfl rfl) ?_
        refine L_v rfl rfl rfl (V_add rfl rfl rfl (w_add _ _)) ?_
        refine L_v rfl rfl rfl (V_indexArr rfl rfl rfl Tryd.underlying148 sz147i (by omega) (by omega) (by first | exact ix0 _ | exact ix1 _ _ | rfl)) ?_
        refine L_v rfl rfl rfl (V_load1 3 rfl rfl rfl Tryd.underlying147 rfl (by first | rfl | exact wl_get (by omega) (by omega))) ?_
        refine L_v rfl rfl rfl (V_indexArr rfl rfl rfl Tryd.underlying148 sz147i (by omega) (by omega) (by first | exact ix0 _ | exact ix1 _ _ | rfl)) ?_
        refine L_v rfl rfl rfl (V_load1 3 rfl rfl rfl Tryd.underlying147 rfl (by first | rfl | exact wl_get (by omega) (by omega))) ?_
        refine L_v rfl rfl rfl (V_indexArr rfl rfl rfl Tryd.underlying148 sz147i (by omega) (by omega) (by first | exact ix0 _ | exact ix1 _ _ | rfl)) ?_
        refine L_v rfl rfl rfl (V_load1 3 rfl rfl rfl Tryd.underlying147 rfl (by first | rfl | exact wl_get (by omega) (by omega))) ?_
        refine L_v rfl rfl rfl (V_build (vs := [(0, wv _), (1, wv _), (2, wv _), (3, wv _), (4, wv _), (5, wv _), (6, wv _), (7, wv _)]) rfl rfl (bd8 _ _ _ _ _ _ _ _)) ?_
        refine L_storeW 3 rfl rfl rfl rfl rfl rfl (szd sz148i (by first | (rw [wl_len]; rfl) | (rw [wl_len, acc_len _ _ _ (by omega)]))) (by first | exact wl_one _ | exact hL_one _ _ _ | exact dg_one _) (by first | (rw [wl_len]; rfl) | (rw [wl_len, acc_len _ _ _ (by omega)])) ?_
        refine L_nil ?_
        change J _ _ _ _
        refine J_region ?_
        refine L_v rfl rfl rfl (V_move rfl rfl) ?_
        refine L_v rfl rfl rfl (V_add rfl rfl rfl (by first | exact Go.IntWalk.i64_in _ (by omega) | rfl)) ?_
        refine L_v rfl rfl rfl (V_assign rfl rfl) ?_
        refine L_nil ?_
        exact ⟨t + 1, by omega, by omega, ⟨rfl, rfl, rfl, rfl, rfl, trivial⟩, List.Sublist.refl _, fun f hf => hf, rfl⟩
      ·
        first | (have h3 := h3; rw [decide_eq_true_eq] at h3) | (have h3 := h3; rw [decide_eq_false_iff_not] at h3) | skip
        obtain rfl : t = 64 := by omega
        have hblk : blk KT ws bl = ws.add (rnd KT (arr bl 64) ws 64) := by unfold blk; rw [arr_end]
        obtain ⟨R, hR⟩ : ∃ R, rnd KT (arr bl 64) ws 64 = R := ⟨_, rfl⟩
        rw [hR]
        refine J_exit ?_
        change J _ _ _ _
        refine J_seq ?_
        refine J_seq ?_
        refine J_region ?_
        refine L_v rfl rfl rfl (V_assign rfl rfl) ?_
        refine L_nil ?_
        change J _ _ _ _
        refine J_block ?_
        refine J_loop (X := Nat) (fun i => { env := [(2, .pointer (some ⟨b0, 0, none⟩)), (4, .pointer (some ⟨b1, 0, none⟩)), (10, .pointer (some ⟨b3, 0, none⟩)), (16, .int .i64 (i : Int))], mem := [(b0, row 148 (wl (acc ws R i))), (b1, row 148 (wl (List.replicate 8 0))), (b2, row 169 (wl (arr bl 64))), (b3, row 148 (wl R.l))] }) (fun i => i ≤ 8) (fun i => 8 - i) 0 (Nat.zero_le _) ⟨⟨rfl, rfl, rfl, rfl, trivial⟩, (by subst hR; exact List.Sublist.refl _), fun f hf => hf, rfl⟩ ?_
        rintro i hi
        refine J_seq ?_
        refine J_seq ?_
        refine J_region ?_
        refine L_v rfl rfl rfl (V_move rfl rfl) ?_
        refine L_v rfl rfl rfl (V_lss rfl rfl rfl (by first | exact decide_eq_true (by omega) | exact decide_eq_false (by omega) | rfl)) ?_
        refine L_nil ?_
        change J _ _ _ _
        refine J_cond rfl (fun h4 => ?_) (fun h4 => ?_)
        ·
          first | (have h4 := h4; rw [decide_eq_true_eq] at h4) | (have h4 := h4; rw [decide_eq_false_iff_not] at h4) | skip
          refine J_skip ?_
          change J _ _ _ _
          refine J_seq ?_
          refine J_block ?_
          refine J_regionT 9 rfl (by kernel_rfl) ?_
          refine LQ_v rfl rfl rfl (V_move rfl rfl) ?_
          refine LQ_v rfl rfl rfl (V_move rfl rfl) ?_
          refine LQ_v rfl rfl rfl (V_indexArr rfl rfl rfl Tryd.underlying148 sz147i (by omega) (by omega) (by first | exact ix0 _ | exact ix1 _ _ | rfl)) ?_
          refine LQ_v rfl rfl rfl (V_load1 0 rfl rfl rfl Tryd.underlying147 rfl (wl_get (by omega) (by rw [acc_len _ _ _ (by omega)]; omega))) ?_
          refine LQ_v rfl rfl rfl (V_move rfl rfl) ?_
          refine LQ_v rfl rfl rfl (V_indexArr rfl rfl rfl Tryd.underlying148 sz147i (by omega) (by omega) (by first | exact ix0 _ | exact ix1 _ _ | rfl)) ?_
          refine LQ_v rfl rfl rfl (V_load1 3 rfl rfl rfl Tryd.underlying147 rfl (wl_get (by omega) (by show _ < ((8 : Nat) : Int); omega))) ?_
          refine LQ_v rfl rfl rfl (V_add rfl rfl rfl (w_add _ _)) ?_
          refine LQ_v rfl rfl rfl (V_indexArr rfl rfl rfl Tryd.underlying148 sz147i (by omega) (by omega) (by first | exact ix0 _ | exact ix1 _ _ | rfl)) ?_
          refine LQ_nil ?_
          refine L_store1 0 rfl rfl rfl rfl rfl rfl rfl sz147i (by first | exact Nat.zero_lt_succ _ | (rw [wl_len, acc_len _ _ _ (by omega)]; omega) | (rw [wl_len, arr_len _ (by omega)]; omega) | (rw [hL_len _ (acc_len _ _ _ (by omega)) hbl]; omega)) rfl ?_
          refine L_nil ?_
          change J _ _ _ _
          refine J_region ?_
          refine L_v rfl rfl rfl (V_move rfl rfl) ?_
          refine L_v rfl rfl rfl (V_add rfl rfl rfl (by first | exact Go.IntWalk.i64_in _ (by omega) | rfl)) ?_
          refine L_v rfl rfl rfl (V_assign rfl rfl) ?_
          refine L_nil ?_
          have e9 := acc_set ws R i (by omega)
          exact ⟨i + 1, by omega, by omega, ⟨rfl, rfl, rfl, rfl, trivial⟩, (by rw [← e9, ← wl_set]; exact List.Sublist.refl _), fun f hf => hf, rfl⟩
        ·
          first | (have h4 := h4; rw [decide_eq_true_eq] at h4) | (have h4 := h4; rw [decide_eq_false_iff_not] at h4) | skip
          obtain rfl : i = 8 := by omega
          refine J_exit ?_
          change J _ _ _ _
          refine J_seq ?_
          refine J_region ?_
          refine L_v rfl rfl rfl (V_loadW 0 rfl rfl rfl Tryd.underlying148 rfl (szd sz148i (by first | (rw [wl_len]; rfl) | (rw [wl_len, acc_len _ _ _ (by omega)])))) ?_
          refine L_storeW 1 rfl rfl rfl rfl rfl rfl (szd sz148i (by first | (rw [wl_len]; rfl) | (rw [wl_len, acc_len _ _ _ (by omega)]))) (by first | exact wl_one _ | exact hL_one _ _ _ | exact dg_one _) (by first | (rw [wl_len]; rfl) | (rw [wl_len, acc_len _ _ _ (by omega)])) ?_
          refine L_nil ?_
          change J _ _ _ _
          refine J_ret ?_
          change Kret _ _ _ Exit.ret _
          refine ret1 rfl rfl (RV_c 1 rfl rfl Tryd.underlying148 rfl (szd sz148i (by first | (rw [wl_len]; rfl) | (rw [wl_len, acc_len _ _ _ (by omega)])))) ?_
          exact fun w' h => ⟨by rw [hblk, hR]; rfl, h.fr⟩

end Go.Proofs.YtfdmjjhgdbpfeaaDoor

/- What layer 2 and its reference make of bytes. -/
set_option linter.unusedVariables false
set_option linter.unusedSimpArgs false
set_option maxRecDepth 100000
namespace Go.Proofs.YtfdmjjhgdbpfeaaDoor
open Go.Sx
theorem elj : ElemOf Tryd.prog 5 1 1 (.int .u8 0) := elem_of (by kernel_rfl) rfl
theorem sz3j : (Tryd.prog.info? 3).map (·.size) = some 1 := by kernel_rfl
theorem sz5j : (Tryd.prog.info? 5).map (·.size) = some 1 := by kernel_rfl
theorem sz26j : (Tryd.prog.info? 26).map (·.size) = some 32 := by kernel_rfl
theorem sz141j : (Tryd.prog.info? 141).map (·.size) = some 64 := by kernel_rfl
theorem sz147j : (Tryd.prog.info? 147).map (·.size) = some 1 := by kernel_rfl
theorem sz148j : (Tryd.prog.info? 148).map (·.size) = some 8 := by kernel_rfl
theorem sz157j : (Tryd.prog.info? 157).map (·.size) = some 73 := by kernel_rfl
theorem tx60j : Txt Tryd.prog 60 := txt_of Tryd.func60 rfl (by kernel_rfl)
theorem tx86j : Txt Tryd.prog 86 := txt_of Tryd.func86 rfl (by kernel_rfl)
theorem bz5j : (Tryd.prog.info? 5).map (fun i => (i.zero, i.size)) = some (some (.int .u8 0), 1) := by kernel_rfl
theorem z26j : (Tryd.prog.info? 26).bind (·.zero) = some (.agg (dg zd).toArray) := by kernel_rfl
theorem z157j : (Tryd.prog.info? 157).bind (·.zero) = some (.agg (hL (List.replicate 8 0) (List.replicate 64 0) 0).toArray) := by kernel_rfl
theorem z158j : (Tryd.prog.info? 158).bind (·.zero) = some (.agg (dg (List.replicate 72 0)).toArray) := by kernel_rfl

theorem write_w (b : Nat) (ws : R8) (bl m : List Int) (L : List Int) (a : Option Addr) (n c : Nat) (w : World) (hb : w.heap[b]? = some (row 157 (hL ws.l bl (m.length : Int)))) (hs : HS m ws bl) (hu : SlB w (.slice a n c) L) (hap : ∀ k, (factB (.slice a n c) L).fp k → k ≠ b) (hLb : Byt L) (hcn : n ≤ c) (hK : TabK KT 1 w) (hbg : b ≠ 1) (hsz : m.length + L.length ≤ 1099511627775) :
    Calls Tryd.prog 60 #[.pointer (some ⟨b, 0, none⟩), .slice a n c] w fun e w' => ∃ ws' bl', e = .returned (.int .i64 0) ∧ Fr [b] w w' ∧ w'.heap[b]? = some (row 157 (hL ws'.l bl' ((m.length + L.length : Nat) : Int))) ∧ HS (m ++ L) ws' bl' := by
  have hul := hu.size
  refine calls_of (args := [.pointer (some ⟨b, 0, none⟩), .slice a n c]) ([b]) ([(b, row 157 (hL ws.l bl (m.length : Int)))]) ([factB (.slice a n c) L]) Tryd.func60 rfl rfl (okM1 hb (fun f hf => by simp only [List.mem_singleton] at hf; subst hf; exact ⟨hu, fun k hk => ⟨factB_lt hu k hk, hap k hk⟩⟩)) ?_
  refine J_seq ?_
  refine J_region ?_
  refine L_v rfl rfl rfl (V_assign rfl rfl) ?_
  refine L_nil ?_
  change J _ _ _ _
  refine J_seq ?_
  refine J_seq ?_
  refine J_region ?_
  refine L_v rfl rfl rfl (V_move rfl rfl) ?_
  refine L_v rfl rfl rfl (V_eqP rfl rfl rfl Tryd.underlying124 rfl) ?_
  refine L_nil ?_
  change J _ _ _ _
  refine J_false rfl ?_
  refine J_skip ?_
  change J _ _ _ _
  refine J_seq ?_
  refine J_block ?_
  refine J_loop (X := Nat × R8 × List Int × Option Addr × Nat × Nat) (fun x => { env := [(0, .pointer (some ⟨b, 0, none⟩)), (1, .slice x.2.2.2.1 x.2.2.2.2.1 x.2.2.2.2.2)], mem := [(b, row 157 (hL x.2.1.l x.2.2.1 ((m.length + x.1 : Nat) : Int)))], facts := [factB (.slice a n c) L] }) (fun x => x.1 ≤ L.length ∧ HS (m ++ L.take x.1) x.2.1 x.2.2.1 ∧ x.2.2.2.2.1 = L.length - x.1 ∧ x.2.2.2.2.1 ≤ x.2.2.2.2.2 ∧ ∀ W, SlB W (.slice a n c) L → SlB W (.slice x.2.2.2.1 x.2.2.2.2.1 x.2.2.2.2.2) (L.drop x.1)) (fun x => L.length - x.1) (0, ws, bl, a, n, c) ⟨Nat.zero_le _, by rw [List.take_zero, List.append_nil]; exact hs, by show n = L.length - 0; omega, hcn, fun W h => h⟩ ⟨⟨rfl, rfl, trivial⟩, List.Sublist.refl _, fun f hf => hf, rfl⟩ ?_
  rintro ⟨k, ws', bl', a', n', c'⟩ ⟨hk, hs', hn', hc', hS⟩
  simp only at hk hs' hn' hc' hS ⊢
  refine J_seq ?_
  refine J_seq ?_
  refine J_region ?_
  refine L_v rfl rfl rfl (V_move rfl rfl) ?_
  refine L_v rfl rfl rfl (V_len rfl rfl Tryd.underlying57 rfl) ?_
  refine L_v rfl rfl rfl (V_gtr rfl rfl rfl (by first | exact decide_eq_true (by omega) | exact decide_eq_false (by omega) | rfl)) ?_
  refine L_nil ?_
  change J _ _ _ _
  refine J_cond rfl (fun h1 => ?_) (fun h1 => ?_)
  ·
    first | (have h1 := h1; rw [decide_eq_true_eq] at h1) | (have h1 := h1; rw [decide_eq_false_iff_not] at h1) | skip
    have hk1 : k < L.length := by omega
    have hml : (m ++ L.take k).length = m.length + k := by rw [List.length_append, List.length_take]; omega
    obtain ⟨r, hr⟩ : ∃ r, (m.length + k) % 64 = r := ⟨_, rfl⟩
    have hr' : r < 64 := by omega
    have hx : (L.drop k).length = L.length - k := List.length_drop
    have hst := hs_step hs' (L.drop k) (hLb.drop k) (by rw [hx]; omega)
    obtain ⟨cc, hcc⟩ : ∃ cc, min (L.drop k).length (64 - r) = cc := ⟨_, rfl⟩
    rw [hml, hr, hcc] at hst
    have hbl' := hs'.len
    have hbn := blN_len (m := m ++ L.take k) (L.drop k) hbl'
    have hta : (m ++ L.take k) ++ (L.drop k).take cc = m ++ L.take (k + cc) := by rw [List.append_assoc, List.take_add]
    rw [hta] at hst
    refine J_skip ?_
    change J _ _ _ _
    refine J_block ?_
    refine J_seq ?_
    refine J_regionT 10 rfl (by kernel_rfl) ?_
    refine LQ_v rfl rfl rfl (V_move rfl rfl) ?_
    refine LQ_v rfl rfl rfl (V_nilCheck rfl rfl) ?_
    refine LQ_v rfl rfl rfl (V_fieldAddr rfl rfl Tryd.underlying157 rfl sz141j rfl) ?_
    refine LQ_v rfl rfl rfl (V_move rfl rfl) ?_
    refine LQ_v rfl rfl rfl (V_nilCheck rfl rfl) ?_
    refine LQ_v rfl rfl rfl (V_fieldAddr rfl rfl Tryd.underlying157 rfl sz3j rfl) ?_
    refine LQ_v rfl rfl rfl (V_load1 0 rfl rfl rfl Tryd.underlying3 rfl (hL_n rfl hbl')) ?_
    refine LQ_v rfl rfl rfl (V_rem (r := (r : Int)) rfl rfl rfl (by omega) (by rw [r64 (by omega)]; omega)) ?_
    refine LQ_v rfl rfl rfl (V_sliceArrS (l := r) (h := 64) (v := .slice (some ⟨b, 8 + r, none⟩) (64 - r) (64 - r)) rfl rfl Tryd.underlying141 sz5j (Bd.at rfl rfl) rfl (by omega) (Nat.le_refl _) (by show Value.slice (some (if 64 = r then _ else ⟨b, 8 + r * 1, none⟩)) _ _ = _; rw [if_neg (by omega), Nat.mul_one])) ?_
    refine LQ_v rfl rfl rfl (V_move rfl rfl) ?_
    refine LQ_nil ?_
    refine L_copyD 0 (hL ws'.l (blN (m ++ L.take k) bl' (L.drop k)) ((m.length + k : Nat) : Int)) rfl rfl rfl rfl rfl Tryd.underlying57 sz5j rfl (fun w hw => hS w (fB hw 0 rfl)) (by rw [hL_len _ rfl hbl']; omega) (by have e := copy_hL (ws := ws'.l) (m := m ++ L.take k) (bl := bl') (x := L.drop k) (n := ((m.length + k : Nat) : Int)) rfl hbl'; rw [hml, hr] at e; exact e) ?_
    refine L_same 21 rfl (congrArg (fun z : Nat => Value.int .i64 (z : Int)) hcc) ?_
    refine L_v rfl rfl rfl (V_assign rfl rfl) ?_
    refine L_nil ?_
    change J _ _ _ _
    refine J_seq ?_
    refine J_region ?_
    refine L_v rfl rfl rfl (V_move rfl rfl) ?_
    refine L_v rfl rfl rfl (V_nilCheck rfl rfl) ?_
    refine L_v rfl rfl rfl (V_fieldAddr rfl rfl Tryd.underlying157 rfl sz3j rfl) ?_
    refine L_v rfl rfl rfl (V_load1 0 rfl rfl rfl Tryd.underlying3 rfl (hL_n rfl hbn)) ?_
    refine L_v rfl rfl rfl (V_move rfl rfl) ?_
    refine L_v rfl rfl rfl (V_add (r := ((m.length + (k + cc) : Nat) : Int)) rfl rfl rfl (by rw [Go.IntWalk.i64_in _ (by omega)]; omega)) ?_
    refine L_v rfl rfl rfl (V_nilCheck rfl rfl) ?_
    refine L_v rfl rfl rfl (V_fieldAddr rfl rfl Tryd.underlying157 rfl sz3j rfl) ?_
    refine L_store1 0 rfl rfl rfl rfl rfl rfl rfl sz3j (by rw [hL_len _ rfl hbn]; decide) (hL_setn _ rfl hbn) ?_
    refine L_nil ?_
    change J _ _ _ _
    refine J_seq ?_
    refine J_region ?_
    refine L_v rfl rfl rfl (V_move rfl rfl) ?_
    refine L_v rfl rfl rfl (V_move rfl rfl) ?_
    refine L_v rfl rfl rfl (V_sliceS (l := cc) rfl rfl Tryd.underlying57 sz5j (Bd.at rfl rfl) rfl rfl rfl (by omega) hc' (Nat.le_refl _) rfl) ?_
    refine L_v rfl rfl rfl (V_assign rfl rfl) ?_
    refine L_nil ?_
    change J _ _ _ _
    refine J_seq ?_
    refine J_region ?_
    refine L_v rfl rfl rfl (V_move rfl rfl) ?_
    refine L_v rfl rfl rfl (V_nilCheck rfl rfl) ?_
    refine L_v rfl rfl rfl (V_fieldAddr rfl rfl Tryd.underlying157 rfl sz3j rfl) ?_
    refine L_v rfl rfl rfl (V_load1 0 rfl rfl rfl Tryd.underlying3 rfl (hL_n rfl hbn)) ?_
    refine L_v rfl rfl rfl (V_rem rfl rfl rfl (by omega) (r64 (by omega))) ?_
    refine L_v rfl rfl rfl (V_eql rfl rfl rfl (by first | exact decide_eq_true (by omega) | exact decide_eq_false (by omega) | rfl)) ?_
    refine L_nil ?_
    change J _ _ _ _
    refine J_cond rfl (fun h2 => ?_) (fun h2 => ?_)
    ·
      first | (have h2 := h2; rw [decide_eq_true_eq] at h2) | (have h2 := h2; rw [decide_eq_false_iff_not] at h2) | skip
      refine J_region ?_
      refine L_v rfl rfl rfl (V_move rfl rfl) ?_
      refine L_callM 0 rfl rfl rfl rfl tx86j rfl (fun w hw => mix_w b ws' (blN (m ++ L.take k) bl' (L.drop k)) _ w (hw.at (i := 0) rfl) hbn (blN_byt hs'.byt (hLb.drop k)) (TabK.later hw (by intro hx; simp at hx; exact hbg hx.symm) hK) hbg) ⟨rfl, ?_⟩
      refine L_nil ?_
      exact ⟨(k + cc, blk KT ws' (blN (m ++ L.take k) bl' (L.drop k)), (blN (m ++ L.take k) bl' (L.drop k)), _, n' - cc, c' - cc), ⟨by show k + cc ≤ L.length; omega, hst.2 (by omega), by show n' - cc = L.length - (k + cc); omega, by show n' - cc ≤ c' - cc; omega, fun W h => by have := (hS W h).from (l := cc) (by omega) hc'; rwa [List.drop_drop] at this⟩, by show L.length - (k + cc) < L.length - k; omega, ⟨rfl, rfl, trivial⟩, List.Sublist.refl _, fun f hf => hf, rfl⟩
    ·
      first | (have h2 := h2; rw [decide_eq_true_eq] at h2) | (have h2 := h2; rw [decide_eq_false_iff_not] at h2) | skip
      refine J_skip ?_
      exact ⟨(k + cc, ws', (blN (m ++ L.take k) bl' (L.drop k)), _, n' - cc, c' - cc), ⟨by show k + cc ≤ L.length; omega, hst.1 (by omega), by show n' - cc = L.length - (k + cc); omega, by show n' - cc ≤ c' - cc; omega, fun W h => by have := (hS W h).from (l := cc) (by omega) hc'; rwa [List.drop_drop] at this⟩, by show L.length - (k + cc) < L.length - k; omega, ⟨rfl, rfl, trivial⟩, List.Sublist.refl _, fun f hf => hf, rfl⟩
  ·
    first | (have h1 := h1; rw [decide_eq_true_eq] at h1) | (have h1 := h1; rw [decide_eq_false_iff_not] at h1) | skip
    refine J_exit ?_
    change J _ _ _ _
    refine J_seq ?_
    refine J_region ?_
    refine L_v rfl rfl rfl (V_assign rfl rfl) ?_
    refine L_nil ?_
    change J _ _ _ _
    refine J_ret ?_
    change Kret _ _ _ Exit.ret _
    refine ret1 rfl rfl (RV_t rfl) ?_
    obtain rfl : k = L.length := by omega
    rw [List.take_length] at hs'
    exact fun w' h => ⟨ws', bl', rfl, h.fr, h.at (i := 0) rfl, hs'⟩

theorem hsum_w (b : Nat) (ws : R8) (bl m : List Int) (w : World) (hb : w.heap[b]? = some (row 157 (hL ws.l bl (m.length : Int)))) (hs : HS m ws bl) (hK : TabK KT 1 w) (hsz : m.length ≤ 1099511627000) :
    Calls Tryd.prog 61 #[.pointer (some ⟨b, 0, none⟩)] w fun e w' => e = .returned (.agg (dg (shaP m)).toArray) ∧ Fr [] w w' := by
  have h128 : ([128] : List Int).length = 1 := rfl
  refine calls_of (args := [.pointer (some ⟨b, 0, none⟩)]) ([]) ([]) ([]) Tryd.func61 rfl rfl (okW0 _ _ _ _) ?_
  refine J_seq ?_
  refine J_region ?_
  refine L_alloc rfl rfl rfl rfl z26j (fun b0 => ?_)
  refine L_nil ?_
  change J _ _ _ _
  refine J_seq ?_
  refine J_region ?_
  refine L_alloc rfl rfl rfl rfl z26j (fun b1 => ?_)
  refine L_nil ?_
  change J _ _ _ _
  refine J_seq ?_
  refine J_seq ?_
  refine J_region ?_
  refine L_v rfl rfl rfl (V_move rfl rfl) ?_
  refine L_v rfl rfl rfl (V_eqP rfl rfl rfl Tryd.underlying124 rfl) ?_
  refine L_nil ?_
  change J _ _ _ _
  refine J_false rfl ?_
  refine J_skip ?_
  change J _ _ _ _
  refine J_seq ?_
  refine J_region ?_
  refine L_v rfl rfl rfl (V_move rfl rfl) ?_
  refine L_v rfl rfl rfl (V_nilCheck rfl rfl) ?_
  refine L_v rfl rfl rfl (V_loadWF rfl rfl Tryd.underlying157 rfl (fun w hw => OkW.later hw rfl hb) (szd sz157j (by first | exact hL_len _ rfl hs.len | exact (hL_len _ rfl hs.len).symm | exact hL_len _ rfl rfl))) ?_
  refine L_alloc rfl rfl rfl rfl z157j (fun b2 => ?_)
  refine L_storeW 2 rfl rfl rfl rfl rfl rfl (szd sz157j (by first | exact hL_len _ rfl hs.len | exact (hL_len _ rfl hs.len).symm | exact hL_len _ rfl rfl)) (by first | exact wl_one _ | exact hL_one _ _ _ | exact dg_one _) (by first | exact hL_len _ rfl hs.len | exact (hL_len _ rfl hs.len).symm | exact hL_len _ rfl rfl) ?_
  refine L_nil ?_
  change J _ _ _ _
  refine J_seq ?_
  refine J_region ?_
  refine L_bs1 rfl rfl rfl rfl rfl Tryd.underlying57 bz5j rfl rfl (fun b3 => ?_)
  refine L_call rfl rfl rfl rfl tx60j (fun w1 hw => (write_w b2 ws bl m [128] (some ⟨b3, 0, none⟩) 1 1 w1 (hw.at (i := 2) rfl) hs (SlB.of_own hw (i := 3) (l := [128]) (r := []) rfl rfl 1) (apB (hw.ne (i := 3) (j := 2) rfl rfl (by decide))) (fun x hx => by simp at hx; omega) (Nat.le_refl 1) (TabK.later hw (by simp) hK) fun e => by have h1 : w.heap.size ≤ b2 := hw.ge rfl (i := 2) rfl; have h2 := hK.lt; omega (by show m.length + 1 ≤ _; omega)).mono ?_)
  rintro e w' ⟨ws1, bl1, rfl, hfr1, hb1, hs1⟩
  refine ⟨_, _, _, rfl, hw.set (i := 2) rfl hfr1 hb1, rfl, ?_⟩
  refine L_nil ?_
  change J _ _ _ _
  refine J_seq ?_
  refine J_region ?_
  refine L_alloc rfl rfl rfl rfl z158j (fun b4 => ?_)
  refine L_nil ?_
  change J _ _ _ _
  refine J_seq ?_
  refine J_region ?_
  refine L_v rfl rfl rfl (V_fieldAddr rfl rfl Tryd.underlying157 rfl sz3j rfl) ?_
  refine L_v rfl rfl rfl (V_load1 2 rfl rfl rfl Tryd.underlying3 rfl (hL_n rfl hs1.len)) ?_
  refine L_v rfl rfl rfl (V_rem rfl rfl rfl (by omega) (r64 (by omega))) ?_
  refine L_v rfl rfl rfl (V_sub rfl rfl rfl (by first | exact Go.IntWalk.i64_in _ (by omega) | rfl)) ?_
  refine L_v rfl rfl rfl (V_rem (r := (padN m.length : Int)) rfl rfl rfl (by omega) (by rw [r64 (by omega)]; unfold padN; omega)) ?_
  refine L_v rfl rfl rfl (V_assign rfl rfl) ?_
  refine L_nil ?_
  change J _ _ _ _
  refine J_seq ?_
  refine J_seq ?_
  refine J_region ?_
  refine L_v rfl rfl rfl (V_move rfl rfl) ?_
  refine L_nil ?_
  change J _ _ _ _
  refine J_block ?_
  have hm1 : (m ++ [128]).length = m.length + 1 := by simp
  obtain ⟨p, hpp⟩ : ∃ p, padN m.length = p := ⟨_, rfl⟩
  have hp : p < 64 := by rw [← hpp]; unfold padN; omega
  rw [hpp]
  have ht0 : List.replicate 72 (0 : Int) = (List.replicate p (0 : Int) ++ beL (m.length : Int) 0 ++ List.replicate (72 - p - 0) 0) := by unfold beL; rw [show 72 = p + (72 - p - 0) by omega, List.replicate_append_replicate.symm]; first | (simp; done) | (simp; omega)
  refine J_loop (X := Nat) (fun i => { env := [(0, .pointer (some ⟨b, 0, none⟩)), (2, .pointer (some ⟨b0, 0, none⟩)), (3, .pointer (some ⟨b1, 0, none⟩)), (4, .pointer (some ⟨b2, 0, none⟩)), (5, .pointer (some ⟨b4, 0, none⟩)), (6, .int .i64 (p : Int)), (22, .int .i64 (i : Int))], mem := [(b0, row 26 (dg zd)), (b1, row 26 (dg zd)), (b2, row 157 (hL ws1.l bl1 ((m.length + 1 : Nat) : Int))), (b3, row 5 [.int .u8 128]), (b4, row 158 (dg (List.replicate p (0 : Int) ++ beL (m.length : Int) i ++ List.replicate (72 - p - i) 0)))] }) (fun i => i ≤ 8) (fun i => 8 - i) 0 (Nat.zero_le _) ⟨⟨rfl, rfl, rfl, rfl, rfl, rfl, rfl, trivial⟩, (by rw [ht0]; exact List.Sublist.refl _), fun f hf => hf, rfl⟩ ?_
  rintro i hi
  refine J_seq ?_
  refine J_region ?_
  refine L_v rfl rfl rfl (V_lss rfl rfl rfl (by first | exact decide_eq_true (by omega) | exact decide_eq_false (by omega) | rfl)) ?_
  refine L_nil ?_
  change J _ _ _ _
  refine J_seq ?_
  refine J_cond rfl (fun h1 => ?_) (fun h1 => ?_)
  ·
    first | (have h1 := h1; rw [decide_eq_true_eq] at h1) | (have h1 := h1; rw [decide_eq_false_iff_not] at h1) | skip
    refine J_skip ?_
    change J _ _ _ _
    refine J_seq ?_
    refine J_block ?_
    refine J_seq ?_
    refine J_region ?_
    refine L_v rfl rfl rfl (V_move rfl rfl) ?_
    refine L_v rfl rfl rfl (V_assign rfl rfl) ?_
    refine L_nil ?_
    change J _ _ _ _
    refine J_region ?_
    refine L_v rfl rfl rfl (V_move rfl rfl) ?_
    refine L_v rfl rfl rfl (V_move rfl rfl) ?_
    refine L_v rfl rfl rfl (V_add rfl rfl rfl (by first | exact Go.IntWalk.i64_in _ (by omega) | rfl)) ?_
    refine L_v rfl rfl rfl (V_move rfl rfl) ?_
    refine L_v rfl rfl rfl (V_nilCheck rfl rfl) ?_
    refine L_v rfl rfl rfl (V_fieldAddr rfl rfl Tryd.underlying157 rfl sz3j rfl) ?_
    refine L_v rfl rfl rfl (V_loadF rfl rfl Tryd.underlying3 rfl (fun w hw => OkW.later hw rfl hb) (hL_n rfl hs.len)) ?_
    refine L_v rfl rfl rfl (V_conv rfl rfl Tryd.underlying3 Tryd.underlying159 (Go.IntWalk.u64_in _ (by omega))) ?_
    refine L_v rfl rfl rfl (V_mul rfl rfl rfl (Go.IntWalk.u64_in _ (by omega))) ?_
    refine L_v rfl rfl rfl (V_move rfl rfl) ?_
    refine L_v rfl rfl rfl (V_mul rfl rfl rfl (by first | exact Go.IntWalk.i64_in _ (by omega) | rfl)) ?_
    refine L_v rfl rfl rfl (V_sub rfl rfl rfl (by first | exact Go.IntWalk.i64_in _ (by omega) | rfl)) ?_
    refine L_v rfl rfl rfl (V_shr rfl rfl rfl (by omega) rfl) ?_
    refine L_v rfl rfl rfl (V_conv rfl rfl Tryd.underlying159 Tryd.underlying5 (shr_be i (by omega) (by omega) (by omega))) ?_
    refine L_v rfl rfl rfl (V_indexArr (off' := p + i) rfl rfl rfl Tryd.underlying158 sz5j (by omega) (by omega) (by show 0 + ((p : Int) + (i : Int)).toNat * 1 = p + i; omega)) ?_
    refine L_store1 4 rfl rfl rfl rfl rfl rfl rfl sz5j (by rw [dg_length]; simp [beL_len]; omega) (by rw [dg_set, tail_set hp (by omega)]) ?_
    refine L_nil ?_
    change J _ _ _ _
    refine J_region ?_
    refine L_v rfl rfl rfl (V_add rfl rfl rfl (by first | exact Go.IntWalk.i64_in _ (by omega) | rfl)) ?_
    refine L_v rfl rfl rfl (V_move rfl rfl) ?_
    refine L_nil ?_
    exact ⟨i + 1, by omega, by omega, ⟨rfl, rfl, rfl, rfl, rfl, rfl, rfl, trivial⟩, List.Sublist.refl _, fun f hf => hf, rfl⟩
  ·
    first | (have h1 := h1; rw [decide_eq_true_eq] at h1) | (have h1 := h1; rw [decide_eq_false_iff_not] at h1) | skip
    obtain rfl : i = 8 := by omega
    have hpL : padL m.length ++ List.replicate (72 - p - 8) 0 = (List.replicate p (0 : Int) ++ beL (m.length : Int) 8 ++ List.replicate (72 - p - 8) 0) := by unfold padL; rw [hpp]
    refine J_exit ?_
    change J _ _ _ _
    refine J_seq ?_
    refine J_region ?_
    refine L_v rfl rfl rfl (V_move rfl rfl) ?_
    refine L_v rfl rfl rfl (V_add rfl rfl rfl (by first | exact Go.IntWalk.i64_in _ (by omega) | rfl)) ?_
    refine L_v rfl rfl rfl (V_sliceArrS (l := 0) (h := p + 8) (v := .slice (some ⟨b4, 0, none⟩) (p + 8) 72) rfl rfl Tryd.underlying158 sz5j rfl (Bd.at rfl rfl) (by omega) (by omega) rfl) ?_
    refine L_call rfl rfl rfl rfl tx60j (fun w1 hw => (write_w b2 ws1 bl1 (m ++ [128]) (padL m.length) (some ⟨b4, 0, none⟩) (p + 8) 72 w1 (by rw [hm1]; exact hw.at (i := 2) rfl) hs1 (SlB.of_own hw (i := 4) (l := padL m.length) (r := dg (List.replicate (72 - p - 8) 0)) (by rw [← dg_append, hpL]; rfl) (by rw [padL_len, hpp]) 72) (apB (hw.ne (i := 4) (j := 2) rfl rfl (by decide))) (padL_byt _) (by omega) (TabK.later hw (by simp) hK) fun e => by have h1 : w.heap.size ≤ b2 := hw.ge rfl (i := 2) rfl; have h2 := hK.lt; omega (by rw [hm1, padL_len]; omega)).mono ?_)
    rintro e w' ⟨ws2, bl2, rfl, hfr2, hb2, hs2⟩
    refine ⟨_, _, _, rfl, hw.set (i := 2) rfl hfr2 hb2, rfl, ?_⟩
    refine L_nil ?_
    change J _ _ _ _
    refine J_seq ?_
    refine J_seq ?_
    refine J_region ?_
    refine L_v rfl rfl rfl (V_move rfl rfl) ?_
    refine L_nil ?_
    change J _ _ _ _
    refine J_block ?_
    refine J_loop (X := Nat) (fun i => { env := [(2, .pointer (some ⟨b0, 0, none⟩)), (3, .pointer (some ⟨b1, 0, none⟩)), (4, .pointer (some ⟨b2, 0, none⟩)), (45, .int .i64 (i : Int))], mem := [(b0, row 26 (dg zd)), (b1, row 26 (dg ((dig ws2).take i ++ zd.drop i))), (b2, row 157 (hL ws2.l bl2 (((m ++ [128]).length + (padL m.length).length : Nat) : Int))), (b3, row 5 [.int .u8 128]), (b4, row 158 (dg (List.replicate p (0 : Int) ++ beL (m.length : Int) 8 ++ List.replicate (72 - p - 8) 0)))] }) (fun i => i ≤ 32) (fun i => 32 - i) 0 (Nat.zero_le _) ⟨⟨rfl, rfl, rfl, rfl, trivial⟩, (by show List.Sublist [(b0, _), (b1, row 26 (dg (List.take 0 (dig ws2) ++ List.drop 0 zd))), _, _, _] _; rw [dz0]; exact List.Sublist.refl _), fun f hf => hf, rfl⟩ ?_
    rintro i hi
    refine J_seq ?_
    refine J_region ?_
    refine L_v rfl rfl rfl (V_lss rfl rfl rfl (by first | exact decide_eq_true (by omega) | exact decide_eq_false (by omega) | rfl)) ?_
    refine L_nil ?_
    change J _ _ _ _
    refine J_seq ?_
    refine J_cond rfl (fun h2 => ?_) (fun h2 => ?_)
    ·
      first | (have h2 := h2; rw [decide_eq_true_eq] at h2) | (have h2 := h2; rw [decide_eq_false_iff_not] at h2) | skip
      refine J_skip ?_
      change J _ _ _ _
      refine J_seq ?_
      refine J_block ?_
      refine J_seq ?_
      refine J_region ?_
      refine L_v rfl rfl rfl (V_move rfl rfl) ?_
      refine L_v rfl rfl rfl (V_assign rfl rfl) ?_
      refine L_nil ?_
      change J _ _ _ _
      refine J_region ?_
      refine L_v rfl rfl rfl (V_move rfl rfl) ?_
      refine L_v rfl rfl rfl (V_move rfl rfl) ?_
      refine L_v rfl rfl rfl (V_quo rfl rfl rfl (by omega) (by first | exact q64 (by omega) (by omega) (by omega) | rfl)) ?_
      refine L_v rfl rfl rfl (V_fieldAddr rfl rfl Tryd.underlying157 rfl sz148j rfl) ?_
      refine L_v rfl rfl rfl (V_indexArr (off' := i / 4) rfl rfl rfl Tryd.underlying148 sz147j (by omega) (by omega) (by show 0 + 0 + ((i : Int) / 4).toNat * 1 = i / 4; omega)) ?_
      refine L_v rfl rfl rfl (V_load1 2 rfl rfl rfl Tryd.underlying147 rfl (hL_word (by show i / 4 < 8; omega))) ?_
      refine L_v rfl rfl rfl (V_move rfl rfl) ?_
      refine L_v rfl rfl rfl (V_rem rfl rfl rfl (by omega) (by first | exact r64 (by omega) | rfl)) ?_
      refine L_v rfl rfl rfl (V_mul rfl rfl rfl (by first | exact Go.IntWalk.i64_in _ (by omega) | rfl)) ?_
      refine L_v rfl rfl rfl (V_sub rfl rfl rfl (by first | exact Go.IntWalk.i64_in _ (by omega) | rfl)) ?_
      refine L_v rfl rfl rfl (V_shr rfl rfl rfl (by omega) (shr_db ws2 (by omega))) ?_
      refine L_v rfl rfl rfl (V_conv rfl rfl Tryd.underlying147 Tryd.underlying5 (conv_db ws2 i)) ?_
      refine L_v rfl rfl rfl (V_indexArr (off' := i) rfl rfl rfl Tryd.underlying26 sz5j (by omega) (by omega) (by show 0 + ((i : Nat) : Int).toNat * 1 = i; omega)) ?_
      refine L_store1 1 rfl rfl rfl rfl rfl rfl rfl sz5j (by rw [dg_length]; simp [dig_len, zd_length]; omega) (by rw [dg_set, dig_set (by omega)]) ?_
      refine L_nil ?_
      change J _ _ _ _
      refine J_region ?_
      refine L_v rfl rfl rfl (V_add rfl rfl rfl (by first | exact Go.IntWalk.i64_in _ (by omega) | rfl)) ?_
      refine L_v rfl rfl rfl (V_move rfl rfl) ?_
      refine L_nil ?_
      exact ⟨i + 1, by omega, by omega, ⟨rfl, rfl, rfl, rfl, trivial⟩, List.Sublist.refl _, fun f hf => hf, rfl⟩
    ·
      first | (have h2 := h2; rw [decide_eq_true_eq] at h2) | (have h2 := h2; rw [decide_eq_false_iff_not] at h2) | skip
      obtain rfl : i = 32 := by omega
      have hd32 : (dig ws2).take 32 ++ zd.drop 32 = shaP m := by
        rw [List.take_of_length_le (by rw [dig_len]; exact Nat.le_refl _), show zd.drop 32 = [] from rfl, List.append_nil]
        unfold shaP
        rw [hs2.w]
        rfl
      rw [hd32]
      have hd33 := shaP_len m
      refine J_exit ?_
      change J _ _ _ _
      refine J_seq ?_
      refine J_region ?_
      refine L_v rfl rfl rfl (V_loadW 1 rfl rfl rfl Tryd.underlying26 rfl (szd sz26j (by first | rfl | (rw [dg_length]; simp [dig_len, zd_length]; done) | (rw [dg_length]; assumption)))) ?_
      refine L_storeW 0 rfl rfl rfl rfl rfl rfl (szd sz26j (by first | rfl | (rw [dg_length]; simp [dig_len, zd_length]; done) | (rw [dg_length]; assumption))) (by first | exact wl_one _ | exact hL_one _ _ _ | exact dg_one _) (by first | rfl | (rw [dg_length]; simp [dig_len, zd_length]; done) | (rw [dg_length]; assumption)) ?_
      refine L_nil ?_
      change J _ _ _ _
      refine J_ret ?_
      change Kret _ _ _ Exit.ret _
      refine ret1 rfl rfl (RV_c 0 rfl rfl Tryd.underlying26 rfl (szd sz26j (by first | rfl | (rw [dg_length]; simp [dig_len, zd_length]; done) | (rw [dg_length]; assumption)))) ?_
      exact fun w' h => ⟨rfl, h.fr⟩

end Go.Proofs.YtfdmjjhgdbpfeaaDoor

/- The sum of bytes, by layer 2 and by its reference. -/
set_option linter.unusedVariables false
set_option linter.unusedSimpArgs false
set_option maxRecDepth 100000
namespace Go.Proofs.YtfdmjjhgdbpfeaaDoor
open Go.Sx
theorem bsA (w : World) : (Instr.buildSlice 57 3 [(0, .int .u8 97), (1, .int .u8 98), (2, .int .u8 99)].toArray).run Tryd.prog w = .ok (.slice (some ⟨w.heap.size, 0, none⟩) 3 3) (w.alloc (row 5 (dg [97, 98, 99]))) := by kernel_rfl
theorem sz5k : (Tryd.prog.info? 5).map (·.size) = some 1 := by kernel_rfl
theorem sz26k : (Tryd.prog.info? 26).map (·.size) = some 32 := by kernel_rfl
theorem sz147k : (Tryd.prog.info? 147).map (·.size) = some 1 := by kernel_rfl
theorem sz148k : (Tryd.prog.info? 148).map (·.size) = some 8 := by kernel_rfl
theorem tx59k : Txt Tryd.prog 59 := txt_of Tryd.func59 rfl (by kernel_rfl)
theorem tx60k : Txt Tryd.prog 60 := txt_of Tryd.func60 rfl (by kernel_rfl)
theorem tx61k : Txt Tryd.prog 61 := txt_of Tryd.func61 rfl (by kernel_rfl)
theorem tx78k : Txt Tryd.prog 78 := txt_of Tryd.func78 rfl (by kernel_rfl)
theorem tx79k : Txt Tryd.prog 79 := txt_of Tryd.func79 rfl (by kernel_rfl)
theorem tx80k : Txt Tryd.prog 80 := txt_of Tryd.func80 rfl (by kernel_rfl)
theorem bz5k : (Tryd.prog.info? 5).map (fun i => (i.zero, i.size)) = some (some (.int .u8 0), 1) := by kernel_rfl
theorem z26k : (Tryd.prog.info? 26).bind (·.zero) = some (.agg (dg zd).toArray) := by kernel_rfl
theorem z148k : (Tryd.prog.info? 148).bind (·.zero) = some (.agg (wl (List.replicate 8 0)).toArray) := by kernel_rfl

theorem write_nil (a : Option Addr) (n c : Nat) (w : World) :
    Calls Tryd.prog 60 #[.pointer none, .slice a n c] w fun e w' => e = .returned (.int .i64 3) ∧ Fr [] w w' := by
  refine calls_of (args := [.pointer none, .slice a n c]) ([]) ([]) ([]) Tryd.func60 rfl rfl (okW0 _ _ _ _) ?_
  refine J_seq ?_
  refine J_region ?_
  refine L_v rfl rfl rfl (V_assign rfl rfl) ?_
  refine L_nil ?_
  change J _ _ _ _
  refine J_seq ?_
  refine J_seq ?_
  refine J_region ?_
  refine L_v rfl rfl rfl (V_move rfl rfl) ?_
  refine L_v rfl rfl rfl (V_eqP rfl rfl rfl Tryd.underlying124 rfl) ?_
  refine L_nil ?_
  change J _ _ _ _
  refine J_true rfl ?_
  refine J_seq ?_
  refine J_region ?_
  refine L_v rfl rfl rfl (V_assign rfl rfl) ?_
  refine L_nil ?_
  change J _ _ _ _
  refine J_ret ?_
  change Kret _ _ _ Exit.ret _
  refine ret1 rfl rfl (RV_t rfl) ?_
  exact fun w' h => ⟨rfl, h.fr⟩

theorem hsum_nil (w : World) :
    Calls Tryd.prog 61 #[.pointer none] w fun e w' => e = .returned (.agg (dg zd).toArray) ∧ Fr [] w w' := by
  refine calls_of (args := [.pointer none]) ([]) ([]) ([]) Tryd.func61 rfl rfl (okW0 _ _ _ _) ?_
  refine J_seq ?_
  refine J_region ?_
  refine L_alloc rfl rfl rfl rfl z26k (fun b0 => ?_)
  refine L_nil ?_
  change J _ _ _ _
  refine J_seq ?_
  refine J_region ?_
  refine L_alloc rfl rfl rfl rfl z26k (fun b1 => ?_)
  refine L_nil ?_
  change J _ _ _ _
  refine J_seq ?_
  refine J_seq ?_
  refine J_region ?_
  refine L_v rfl rfl rfl (V_move rfl rfl) ?_
  refine L_v rfl rfl rfl (V_eqP rfl rfl rfl Tryd.underlying124 rfl) ?_
  refine L_nil ?_
  change J _ _ _ _
  refine J_true rfl ?_
  refine J_seq ?_
  refine J_region ?_
  refine L_v rfl rfl rfl (V_loadW 1 rfl rfl rfl Tryd.underlying26 rfl (szd sz26k (by first | (rw [dg_length]; exact shaP_len _) | rfl | (rw [dg_length]; assumption)))) ?_
  refine L_storeW 0 rfl rfl rfl rfl rfl rfl (szd sz26k (by first | (rw [dg_length]; exact shaP_len _) | rfl | (rw [dg_length]; assumption))) (by first | exact wl_one _ | exact hL_one _ _ _ | exact dg_one _) (by first | (rw [dg_length]; exact shaP_len _) | rfl | (rw [dg_length]; assumption)) ?_
  refine L_nil ?_
  change J _ _ _ _
  refine J_ret ?_
  change Kret _ _ _ Exit.ret _
  refine ret1 rfl rfl (RV_c 0 rfl rfl Tryd.underlying26 rfl (szd sz26k (by first | (rw [dg_length]; exact shaP_len _) | rfl | (rw [dg_length]; assumption)))) ?_
  exact fun w' h => ⟨rfl, h.fr⟩

theorem ssum_w (L : List Int) (a : Option Addr) (n c : Nat) (w : World) (hu : SlB w (.slice a n c) L) (hby : Byt L) (hcn : n ≤ c) (hK : TabK KT 1 w) (hsz : L.length ≤ 1099511627000) :
    Calls Tryd.prog 29 #[.slice a n c] w fun e w' => e = .returned (.agg (dg (shaP L)).toArray) ∧ Fr [] w w' := by
  refine calls_of (args := [.slice a n c]) ([]) ([]) ([]) Tryd.func29 rfl rfl (okW0 _ _ _ _) ?_
  refine J_seq ?_
  refine J_region ?_
  refine L_alloc rfl rfl rfl rfl z26k (fun b0 => ?_)
  refine L_nil ?_
  change J _ _ _ _
  refine J_seq ?_
  refine J_region ?_
  refine L_call rfl rfl rfl rfl tx59k (fun w1 hw => (hnew_w w1).mono ?_)
  rintro e w' ⟨b1, rfl, hfr1, hsz1, hb1⟩
  refine ⟨_, _, _, rfl, hw.add hfr1 hb1 hsz1, rfl, ?_⟩
  refine L_v rfl rfl rfl (V_assign rfl rfl) ?_
  refine L_nil ?_
  change J _ _ _ _
  refine J_seq ?_
  refine J_region ?_
  refine L_v rfl rfl rfl (V_move rfl rfl) ?_
  refine L_v rfl rfl rfl (V_move rfl rfl) ?_
  refine L_call rfl rfl rfl rfl tx60k (fun w1 hw => (write_w b1 R0 (List.replicate 64 0) [] L a n c w1 (hw.at (i := 1) rfl) hs0 (SlB.later hw rfl hu) (apF hu (hw.ge rfl (i := 1) rfl)) hby hcn (TabK.later hw (by simp) hK) fun e => by have h1 : w.heap.size ≤ b1 := hw.ge rfl (i := 1) rfl; have h2 := hK.lt; omega (by simp; omega)).mono ?_)
  rintro e w' ⟨ws2, bl2, rfl, hfr2, hb2, hs2⟩
  refine ⟨_, _, _, rfl, hw.set (i := 1) rfl hfr2 hb2, rfl, ?_⟩
  refine L_nil ?_
  change J _ _ _ _
  refine J_seq ?_
  refine J_region ?_
  refine L_v rfl rfl rfl (V_move rfl rfl) ?_
  refine L_callV rfl rfl rfl rfl rfl rfl tx61k (fun w1 hw => hsum_w b1 ws2 bl2 ([] ++ L) w1 (by have h9 := hw.at (i := 1) rfl; rw [show ([] : List Int).length + L.length = L.length by simp] at h9; exact h9) hs2 (TabK.later hw (by simp) hK) (by show L.length ≤ _; omega)) ?_
  refine L_storeW 0 rfl rfl rfl rfl rfl rfl (szd sz26k (by first | (rw [dg_length]; exact shaP_len _) | rfl | (rw [dg_length]; assumption))) (by first | exact wl_one _ | exact hL_one _ _ _ | exact dg_one _) (by first | (rw [dg_length]; exact shaP_len _) | rfl | (rw [dg_length]; assumption)) ?_
  refine L_nil ?_
  change J _ _ _ _
  refine J_ret ?_
  change Kret _ _ _ Exit.ret _
  refine ret1 rfl rfl (RV_c 0 rfl rfl Tryd.underlying26 rfl (szd sz26k (by first | (rw [dg_length]; exact shaP_len _) | rfl | (rw [dg_length]; assumption)))) ?_
  exact fun w' h => ⟨rfl, h.fr⟩

theorem pad_w (L : List Int) (a : Option Addr) (n c : Nat) (w : World) (hu : SlB w (.slice a n c) L) (hby : Byt L) (hsz : L.length ≤ 1099511627000) :
    Calls Tryd.prog 78 #[.slice a n c] w fun e w' => RetB 5 w (pad L) (pad L).length id e w' := by
  have hul := hu.size
  have h128 : ([128] : List Int).length = 1 := rfl
  have hpn : padN n < 64 := by unfold padN; omega
  refine calls_of (args := [.slice a n c]) ([]) ([]) ([]) Tryd.func78 rfl rfl (okW0 _ _ _ _) ?_
  refine J_seq ?_
  refine J_region ?_
  refine L_v rfl rfl rfl (V_assign rfl rfl) ?_
  refine L_nil ?_
  change J _ _ _ _
  refine J_seq ?_
  refine J_region ?_
  refine L_v rfl rfl rfl (V_assign rfl rfl) ?_
  refine L_nil ?_
  change J _ _ _ _
  refine J_seq ?_
  refine J_region ?_
  refine L_v rfl rfl rfl (V_move rfl rfl) ?_
  refine L_v rfl rfl rfl (V_move rfl rfl) ?_
  refine L_appL [] none [] (n' := n) (ks' := dg L) rfl rfl rfl rfl rfl Tryd.underlying57 elj rfl ⟨rfl, rfl⟩ (fun w hw => src_bytes' Tryd.underlying57 (SlB.later hw rfl hu) hul) (Nat.zero_add n) (List.nil_append _) (by omega) (by omega) (fun q0 hq0 => ?_)
  refine L_v rfl rfl rfl (V_assign rfl rfl) ?_
  refine L_nil ?_
  change J _ _ _ _
  refine J_seq ?_
  refine J_region ?_
  refine L_v rfl rfl rfl (V_move rfl rfl) ?_
  refine L_bs1 rfl rfl rfl rfl rfl Tryd.underlying57 bz5k rfl rfl (fun b0 => ?_)
  refine L_appN [] [(b0, row 5 [.int .u8 (128)])] q0 (dg L) (n' := n + 1) (ks' := dg (L ++ [128])) rfl rfl rfl rfl rfl Tryd.underlying57 elj rfl hq0 (fun w hw => src_bytes' Tryd.underlying57 (SlB.in hw (l := [128]) (r := []) (fz := (0, 0)) (List.mem_append_right _ (List.mem_singleton.2 rfl)) rfl 1) rfl) rfl (by first | (rw [dg_append]; done) | (rw [dg_append]; rfl)) (by omega) (by omega) (fun q' hq' => ?_)
  refine L_v rfl rfl rfl (V_assign rfl rfl) ?_
  refine L_nil ?_
  change J _ _ _ _
  refine J_seq ?_
  refine J_block ?_
  refine J_loop (X := Nat × OwnR) (fun x => { env := [(0, .slice a n c), (3, ownV x.2 (n + 1 + x.1))], mem := ownM 5 x.2 (dg (L ++ [128] ++ List.replicate x.1 0)) }) (fun x => x.1 ≤ padN n ∧ OwnC 1 x.2 (n + 1 + x.1) (dg (L ++ [128] ++ List.replicate x.1 0))) (fun x => padN n - x.1) (0, q') ⟨Nat.zero_le _, by simpa using hq'⟩ ⟨⟨rfl, rfl, trivial⟩, (by simp only [List.replicate_zero, List.append_nil]; exact List.sublist_append_left _ _), fun f hf => hf, rfl⟩ ?_
  rintro ⟨j, q⟩ ⟨hj, hq⟩
  simp only at hj hq ⊢
  refine J_seq ?_
  refine J_seq ?_
  refine J_region ?_
  refine L_v rfl rfl rfl (V_move rfl rfl) ?_
  refine L_v rfl rfl rfl (V_len rfl rfl Tryd.underlying57 rfl) ?_
  refine L_v rfl rfl rfl (V_rem rfl rfl rfl (by omega) (r64 (by omega))) ?_
  refine L_v rfl rfl rfl (V_neq rfl rfl rfl (by first | exact decide_eq_true (by omega) | exact decide_eq_false (by omega) | rfl)) ?_
  refine L_nil ?_
  change J _ _ _ _
  refine J_cond rfl (fun h1 => ?_) (fun h1 => ?_)
  ·
    first | (have h1 := h1; rw [decide_eq_true_eq] at h1) | (have h1 := h1; rw [decide_eq_false_iff_not] at h1) | skip
    refine J_skip ?_
    change J _ _ _ _
    refine J_block ?_
    refine J_region ?_
    refine L_v rfl rfl rfl (V_move rfl rfl) ?_
    refine L_bs1 rfl rfl rfl rfl rfl Tryd.underlying57 bz5k rfl rfl (fun b1 => ?_)
    refine L_appN [] [(b1, row 5 [.int .u8 (0)])] q (dg (L ++ [128] ++ List.replicate j 0)) (n' := (n + 1 + j) + 1) (ks' := dg (L ++ [128] ++ List.replicate (j + 1) 0)) rfl rfl rfl rfl rfl Tryd.underlying57 elj rfl hq (fun w hw => src_bytes' Tryd.underlying57 (SlB.in hw (l := [0]) (r := []) (fz := (0, 0)) (List.mem_append_right _ (List.mem_singleton.2 rfl)) rfl 1) rfl) rfl (by first | (rw [List.replicate_succ', ← List.append_assoc, dg_append (L ++ [128] ++ _)]; done) | (rw [List.replicate_succ', ← List.append_assoc, dg_append (L ++ [128] ++ _)]; rfl)) (by omega) (by omega) (fun q' hq' => ?_)
    refine L_v rfl rfl rfl (V_assign rfl rfl) ?_
    refine L_nil ?_
    have hlt : j < padN n := by unfold padN at hj ⊢; omega
    exact ⟨(j + 1, q'), ⟨by show j + 1 ≤ padN n; omega, hq'⟩, by show padN n - (j + 1) < padN n - j; omega, ⟨rfl, rfl, trivial⟩, List.sublist_append_left _ _, fun f hf => hf, rfl⟩
  ·
    first | (have h1 := h1; rw [decide_eq_true_eq] at h1) | (have h1 := h1; rw [decide_eq_false_iff_not] at h1) | skip
    obtain ⟨p, hpp⟩ : ∃ p, padN n = p := ⟨_, rfl⟩
    obtain rfl : p = j := by rw [← hpp]; unfold padN at hj ⊢; omega
    have hp64 : p < 64 := by rw [← hpp]; unfold padN; omega
    have hb0 : beL (n : Int) 0 = [] := rfl
    refine J_exit ?_
    change J _ _ _ _
    refine J_seq ?_
    refine J_region ?_
    refine L_v rfl rfl rfl (V_move rfl rfl) ?_
    refine L_v rfl rfl rfl (V_len rfl rfl Tryd.underlying57 rfl) ?_
    refine L_v rfl rfl rfl (V_conv rfl rfl Tryd.underlying3 Tryd.underlying159 (Go.IntWalk.u64_in _ (by omega))) ?_
    refine L_v rfl rfl rfl (V_mul rfl rfl rfl (Go.IntWalk.u64_in _ (by omega))) ?_
    refine L_v rfl rfl rfl (V_assign rfl rfl) ?_
    refine L_nil ?_
    change J _ _ _ _
    refine J_seq ?_
    refine J_seq ?_
    refine J_region ?_
    refine L_v rfl rfl rfl (V_assign rfl rfl) ?_
    refine L_nil ?_
    change J _ _ _ _
    refine J_block ?_
    refine J_loop (X := Nat × OwnR) (fun x => { env := [(3, ownV x.2 (n + 1 + p + x.1)), (4, .int .u64 ((n : Int) * 8)), (5, .int .i64 (7 - (x.1 : Int)))], mem := ownM 5 x.2 (dg ((L ++ [128] ++ List.replicate p 0) ++ beL (n : Int) x.1)) }) (fun x => x.1 ≤ 8 ∧ OwnC 1 x.2 (n + 1 + p + x.1) (dg ((L ++ [128] ++ List.replicate p 0) ++ beL (n : Int) x.1))) (fun x => 8 - x.1) (0, q) ⟨Nat.zero_le _, by rw [hb0, List.append_nil]; exact hq⟩ ⟨⟨rfl, rfl, rfl, trivial⟩, (by show List.Sublist (ownM 5 q (dg (_ ++ beL (n : Int) 0))) _; rw [hb0, List.append_nil]; exact List.Sublist.refl _), fun f hf => hf, rfl⟩ ?_
    rintro ⟨k, q⟩ ⟨hk, hq⟩
    simp only at hk hq ⊢
    refine J_seq ?_
    refine J_seq ?_
    refine J_region ?_
    refine L_v rfl rfl rfl (V_move rfl rfl) ?_
    refine L_v rfl rfl rfl (V_geq rfl rfl rfl (by first | exact decide_eq_true (by omega) | exact decide_eq_false (by omega) | rfl)) ?_
    refine L_nil ?_
    change J _ _ _ _
    refine J_cond rfl (fun h2 => ?_) (fun h2 => ?_)
    ·
      first | (have h2 := h2; rw [decide_eq_true_eq] at h2) | (have h2 := h2; rw [decide_eq_false_iff_not] at h2) | skip
      refine J_skip ?_
      change J _ _ _ _
      refine J_seq ?_
      refine J_block ?_
      refine J_region ?_
      refine L_v rfl rfl rfl (V_move rfl rfl) ?_
      refine L_v rfl rfl rfl (V_move rfl rfl) ?_
      refine L_v rfl rfl rfl (V_move rfl rfl) ?_
      refine L_v rfl rfl rfl (V_mul rfl rfl rfl (by first | exact Go.IntWalk.i64_in _ (by omega) | rfl)) ?_
      refine L_v rfl rfl rfl (V_shr rfl rfl rfl (by omega) rfl) ?_
      refine L_v rfl rfl rfl (V_conv rfl rfl Tryd.underlying159 Tryd.underlying5 (shr_be2 k (by omega) (by omega) (by omega))) ?_
      refine L_bs1 rfl rfl rfl rfl rfl Tryd.underlying57 bz5k rfl rfl (fun b1 => ?_)
      refine L_appN [] [(b1, row 5 [.int .u8 (lb (n : Int) (7 - k))])] q (dg ((L ++ [128] ++ List.replicate p 0) ++ beL (n : Int) k)) (n' := (n + 1 + p + k) + 1) (ks' := dg ((L ++ [128] ++ List.replicate p 0) ++ beL (n : Int) (k + 1))) rfl rfl rfl rfl rfl Tryd.underlying57 elj rfl hq (fun w hw => src_bytes' Tryd.underlying57 (SlB.in hw (l := [lb (n : Int) (7 - k)]) (r := []) (fz := (0, 0)) (List.mem_append_right _ (List.mem_singleton.2 rfl)) rfl 1) rfl) rfl (by first | (rw [beL_succ, ← List.append_assoc, dg_append (_ ++ beL _ _)]; done) | (rw [beL_succ, ← List.append_assoc, dg_append (_ ++ beL _ _)]; rfl)) (by omega) (by omega) (fun q' hq' => ?_)
      refine L_v rfl rfl rfl (V_assign rfl rfl) ?_
      refine L_nil ?_
      change J _ _ _ _
      refine J_region ?_
      refine L_v rfl rfl rfl (V_move rfl rfl) ?_
      refine L_v rfl rfl rfl (V_sub (r := 7 - ((k + 1 : Nat) : Int)) rfl rfl rfl (by rw [Go.IntWalk.i64_in _ (by omega)]; omega)) ?_
      refine L_v rfl rfl rfl (V_assign rfl rfl) ?_
      refine L_nil ?_
      exact ⟨(k + 1, q'), ⟨by show k + 1 ≤ 8; omega, hq'⟩, by show 8 - (k + 1) < 8 - k; omega, ⟨rfl, rfl, rfl, trivial⟩, List.sublist_append_left _ _, fun f hf => hf, rfl⟩
    ·
      first | (have h2 := h2; rw [decide_eq_true_eq] at h2) | (have h2 := h2; rw [decide_eq_false_iff_not] at h2) | skip
      obtain rfl : k = 8 := by omega
      refine J_exit ?_
      change J _ _ _ _
      refine J_seq ?_
      refine J_region ?_
      refine L_v rfl rfl rfl (V_move rfl rfl) ?_
      refine L_v rfl rfl rfl (V_assign rfl rfl) ?_
      refine L_nil ?_
      change J _ _ _ _
      refine J_ret ?_
      change Kret _ _ _ Exit.ret _
      refine ret1 rfl rfl (RV_t rfl) ?_
      obtain ⟨g1, c1, r1, rfl, hk1, hc1, hr1⟩ := hq.forms (by omega)
      have hpl := (pad_len L).1
      have hpad : (L ++ [128] ++ List.replicate p 0) ++ beL (n : Int) 8 = pad L := by unfold pad padL; rw [hul, ← hpp]; simp only [List.append_assoc]
      exact fun w' h => RetB.of h rfl 0 (r := r1) (by show some _ = some _; rw [hpad]) (by rw [hpl, hul, hpp]; rfl) rfl (by show _ ≤ c1; have hc2 : n + 1 + p + 8 ≤ c1 := hc1; rw [hpl, hul, hpp]; exact hc2) (by show r1.length = c1 - (pad L).length; rw [hpl, hul, hpp, hr1, Nat.mul_one])

theorem rsum_w (L : List Int) (a : Option Addr) (n c : Nat) (w : World) (hu : SlB w (.slice a n c) L) (hby : Byt L) (hK : TabK KT 0 w) (hsz : L.length ≤ 1099511627000) :
    Calls Tryd.prog 52 #[.slice a n c] w fun e w' => e = .returned (.agg (dg (shaP L)).toArray) ∧ Fr [] w w' := by
  have hul := hu.size
  have hpl := pad_len L
  have hpn : padN L.length < 64 := by unfold padN; omega
  refine calls_of (args := [.slice a n c]) ([]) ([]) ([]) Tryd.func52 rfl rfl (okW0 _ _ _ _) ?_
  refine J_seq ?_
  refine J_region ?_
  refine L_alloc rfl rfl rfl rfl z26k (fun b0 => ?_)
  refine L_nil ?_
  change J _ _ _ _
  refine J_seq ?_
  refine J_region ?_
  refine L_v rfl rfl rfl (V_move rfl rfl) ?_
  refine L_callB rfl rfl rfl rfl rfl rfl tx78k (fun w1 hw => pad_w L a n c w1 (SlB.later hw rfl hu) hby (by omega)) (fun g1 r1 c1 hl1 hc1 hr1 => ?_)
  refine L_v rfl rfl rfl (V_assign rfl rfl) ?_
  refine L_nil ?_
  change J _ _ _ _
  refine J_seq ?_
  refine J_region ?_
  refine L_callV rfl rfl rfl rfl rfl rfl tx79k (fun w1 _ => begin_w w1) ?_
  refine L_alloc rfl rfl rfl rfl z148k (fun b2 => ?_)
  refine L_storeW 2 rfl rfl rfl rfl rfl rfl (szd sz148k (by rw [wl_len]; rfl)) (by first | exact wl_one _ | exact hL_one _ _ _ | exact dg_one _) (by rw [wl_len]; rfl) ?_
  refine L_nil ?_
  change J _ _ _ _
  refine J_seq ?_
  refine J_seq ?_
  refine J_region ?_
  refine L_v rfl rfl rfl (V_assign rfl rfl) ?_
  refine L_nil ?_
  change J _ _ _ _
  refine J_block ?_
  refine J_loop (X := Nat) (fun k => { env := [(2, .pointer (some ⟨b0, 0, none⟩)), (3, .slice (some ⟨g1, 0, none⟩) (pad L).length c1), (4, .pointer (some ⟨b2, 0, none⟩)), (5, .int .i64 ((64 * k : Nat) : Int))], mem := [(b0, row 26 (dg zd)), (g1, row 5 (dg (pad L) ++ r1)), (b2, row 148 (wl (wsn (pad L) k).l))] }) (fun k => 64 * k ≤ (pad L).length) (fun k => (pad L).length - 64 * k) 0 (Nat.zero_le _) ⟨⟨rfl, rfl, rfl, rfl, trivial⟩, List.Sublist.refl _, fun f hf => hf, rfl⟩ ?_
  rintro k hk
  refine J_seq ?_
  refine J_seq ?_
  refine J_region ?_
  refine L_v rfl rfl rfl (V_move rfl rfl) ?_
  refine L_v rfl rfl rfl (V_move rfl rfl) ?_
  refine L_v rfl rfl rfl (V_len rfl rfl Tryd.underlying57 rfl) ?_
  refine L_v rfl rfl rfl (V_lss rfl rfl rfl (by first | exact decide_eq_true (by omega) | exact decide_eq_false (by omega) | rfl)) ?_
  refine L_nil ?_
  change J _ _ _ _
  refine J_cond rfl (fun h1 => ?_) (fun h1 => ?_)
  ·
    first | (have h1 := h1; rw [decide_eq_true_eq] at h1) | (have h1 := h1; rw [decide_eq_false_iff_not] at h1) | skip
    refine J_skip ?_
    change J _ _ _ _
    refine J_seq ?_
    refine J_block ?_
    refine J_regionT 7 rfl (by kernel_rfl) ?_
    refine LQ_v rfl rfl rfl (V_loadW 2 rfl rfl rfl Tryd.underlying148 rfl (szd sz148k (by rw [wl_len]; rfl))) ?_
    refine LQ_v rfl rfl rfl (V_move rfl rfl) ?_
    refine LQ_v rfl rfl rfl (V_move rfl rfl) ?_
    refine LQ_v rfl rfl rfl (V_move rfl rfl) ?_
    refine LQ_v rfl rfl rfl (V_add rfl rfl rfl (by first | exact Go.IntWalk.i64_in _ (by omega) | rfl)) ?_
    refine LQ_v rfl rfl rfl (V_sliceS rfl rfl Tryd.underlying57 sz5k (Bd.at (v := 64 * k) rfl rfl) (Bd.at (v := 64 * k + 64) rfl (by omega)) rfl rfl (by first | omega | (simp; omega)) (by first | omega | (simp; omega)) (by first | omega | (simp; omega)) rfl) ?_
    refine LQ_callV rfl rfl rfl rfl rfl rfl tx80k (fun w1 hw => block_w (wsn (pad L) k) _ _ _ (((pad L).drop (64 * k)).take (64 * k + 64 - 64 * k)) w1 (SlB.part (SlB.of_own hw (i := 1) rfl hl1 c1) (by omega) (by omega) (by omega)) (by rw [List.length_take, List.length_drop]; omega) (((pad_byt hby).drop _).take _) (TabK.later hw (by simp) hK)) ?_
    refine LQ_nil ?_
    refine L_storeW 2 rfl rfl rfl rfl rfl rfl (szd sz148k (by rw [wl_len]; rfl)) (by first | exact wl_one _ | exact hL_one _ _ _ | exact dg_one _) (by rw [wl_len]; rfl) ?_
    refine L_nil ?_
    change J _ _ _ _
    refine J_region ?_
    refine L_v rfl rfl rfl (V_move rfl rfl) ?_
    refine L_v rfl rfl rfl (V_add (r := ((64 * (k + 1) : Nat) : Int)) rfl rfl rfl (by rw [Go.IntWalk.i64_in _ (by omega)]; omega)) ?_
    refine L_v rfl rfl rfl (V_assign rfl rfl) ?_
    refine L_nil ?_
    have hch : (((pad L).drop (64 * k)).take (64 * k + 64 - 64 * k)) = chunk (pad L) k := by unfold chunk; rw [show 64 * k + 64 - 64 * k = 64 by omega]
    exact ⟨k + 1, by omega, by omega, ⟨rfl, rfl, rfl, rfl, trivial⟩, (by show List.Sublist [_, _, (b2, row 148 (wl (blk KT (wsn (pad L) k) (chunk (pad L) k)).l))] _; rw [← hch]; exact List.Sublist.refl _), fun f hf => hf, rfl⟩
  ·
    first | (have h1 := h1; rw [decide_eq_true_eq] at h1) | (have h1 := h1; rw [decide_eq_false_iff_not] at h1) | skip
    have hkk : k = (pad L).length / 64 := by omega
    obtain ⟨R, hR⟩ : ∃ R, wsn (pad L) k = R := ⟨_, rfl⟩
    have hsh : shaP L = dig R := by unfold shaP; rw [← hkk, hR]
    refine J_exit ?_
    change J _ _ _ _
    refine J_seq ?_
    refine J_region ?_
    refine L_alloc rfl rfl rfl rfl z26k (fun b3 => ?_)
    refine L_nil ?_
    change J _ _ _ _
    refine J_seq ?_
    refine J_seq ?_
    refine J_region ?_
    refine L_v rfl rfl rfl (V_assign rfl rfl) ?_
    refine L_nil ?_
    change J _ _ _ _
    refine J_block ?_
    refine J_loop (X := Nat) (fun i => { env := [(2, .pointer (some ⟨b0, 0, none⟩)), (4, .pointer (some ⟨b2, 0, none⟩)), (6, .pointer (some ⟨b3, 0, none⟩)), (7, .int .i64 (i : Int))], mem := [(b0, row 26 (dg zd)), (g1, row 5 (dg (pad L) ++ r1)), (b2, row 148 (wl (R).l)), (b3, row 26 (dg ((dig R).take i ++ zd.drop i)))] }) (fun i => i ≤ 32) (fun i => 32 - i) 0 (Nat.zero_le _) ⟨⟨rfl, rfl, rfl, rfl, trivial⟩, (by show List.Sublist [_, _, _, (b3, row 26 (dg (List.take 0 (dig R) ++ List.drop 0 zd)))] _; rw [dz0, ← hR]; exact List.Sublist.refl _), fun f hf => hf, rfl⟩ ?_
    rintro i hi
    refine J_seq ?_
    refine J_seq ?_
    refine J_region ?_
    refine L_v rfl rfl rfl (V_move rfl rfl) ?_
    refine L_v rfl rfl rfl (V_lss rfl rfl rfl (by first | exact decide_eq_true (by omega) | exact decide_eq_false (by omega) | rfl)) ?_
    refine L_nil ?_
    change J _ _ _ _
    refine J_cond rfl (fun h2 => ?_) (fun h2 => ?_)
    ·
      first | (have h2 := h2; rw [decide_eq_true_eq] at h2) | (have h2 := h2; rw [decide_eq_false_iff_not] at h2) | skip
      refine J_skip ?_
      change J _ _ _ _
      refine J_seq ?_
      refine J_block ?_
      refine J_region ?_
      refine L_v rfl rfl rfl (V_move rfl rfl) ?_
      refine L_v rfl rfl rfl (V_move rfl rfl) ?_
      refine L_v rfl rfl rfl (V_quo rfl rfl rfl (by omega) (by first | exact q64 (by omega) (by omega) (by omega) | rfl)) ?_
      refine L_v rfl rfl rfl (V_indexArr (off' := i / 4) rfl rfl rfl Tryd.underlying148 sz147k (by omega) (by omega) (by show 0 + ((i : Int) / 4).toNat * 1 = i / 4; omega)) ?_
      refine L_v rfl rfl rfl (V_load1 2 rfl rfl rfl Tryd.underlying147 rfl (wl_getN (by show i / 4 < 8; omega))) ?_
      refine L_v rfl rfl rfl (V_move rfl rfl) ?_
      refine L_v rfl rfl rfl (V_rem rfl rfl rfl (by omega) (by first | exact r64 (by omega) | rfl)) ?_
      refine L_v rfl rfl rfl (V_mul rfl rfl rfl (by first | exact Go.IntWalk.i64_in _ (by omega) | rfl)) ?_
      refine L_v rfl rfl rfl (V_sub rfl rfl rfl (by first | exact Go.IntWalk.i64_in _ (by omega) | rfl)) ?_
      refine L_v rfl rfl rfl (V_shr rfl rfl rfl (by omega) (shr_db R (by omega))) ?_
      refine L_v rfl rfl rfl (V_conv rfl rfl Tryd.underlying147 Tryd.underlying5 (conv_db R i)) ?_
      refine L_v rfl rfl rfl (V_indexArr (off' := i) rfl rfl rfl Tryd.underlying26 sz5k (by omega) (by omega) (by show 0 + ((i : Nat) : Int).toNat * 1 = i; omega)) ?_
      refine L_store1 3 rfl rfl rfl rfl rfl rfl rfl sz5k (by rw [dg_length]; simp [dig_len, zd_length]; omega) (by rw [dg_set, dig_set (by omega)]) ?_
      refine L_nil ?_
      change J _ _ _ _
      refine J_region ?_
      refine L_v rfl rfl rfl (V_move rfl rfl) ?_
      refine L_v rfl rfl rfl (V_add rfl rfl rfl (by first | exact Go.IntWalk.i64_in _ (by omega) | rfl)) ?_
      refine L_v rfl rfl rfl (V_assign rfl rfl) ?_
      refine L_nil ?_
      exact ⟨i + 1, by omega, by omega, ⟨rfl, rfl, rfl, rfl, trivial⟩, List.Sublist.refl _, fun f hf => hf, rfl⟩
    ·
      first | (have h2 := h2; rw [decide_eq_true_eq] at h2) | (have h2 := h2; rw [decide_eq_false_iff_not] at h2) | skip
      obtain rfl : i = 32 := by omega
      have hd32 : (dig R).take 32 ++ zd.drop 32 = shaP L := by
        rw [List.take_of_length_le (by rw [dig_len]; exact Nat.le_refl _), show zd.drop 32 = [] from rfl, List.append_nil, hsh]
      rw [hd32]
      have hd33 := shaP_len L
      refine J_exit ?_
      change J _ _ _ _
      refine J_seq ?_
      refine J_region ?_
      refine L_v rfl rfl rfl (V_loadW 3 rfl rfl rfl Tryd.underlying26 rfl (szd sz26k (by first | (rw [dg_length]; exact shaP_len _) | rfl | (rw [dg_length]; assumption)))) ?_
      refine L_storeW 0 rfl rfl rfl rfl rfl rfl (szd sz26k (by first | (rw [dg_length]; exact shaP_len _) | rfl | (rw [dg_length]; assumption))) (by first | exact wl_one _ | exact hL_one _ _ _ | exact dg_one _) (by first | (rw [dg_length]; exact shaP_len _) | rfl | (rw [dg_length]; assumption)) ?_
      refine L_nil ?_
      change J _ _ _ _
      refine J_ret ?_
      change Kret _ _ _ Exit.ret _
      refine ret1 rfl rfl (RV_c 0 rfl rfl Tryd.underlying26 rfl (szd sz26k (by first | (rw [dg_length]; exact shaP_len _) | rfl | (rw [dg_length]; assumption)))) ?_
      exact fun w' h => ⟨rfl, h.fr⟩

end Go.Proofs.YtfdmjjhgdbpfeaaDoor

/- What the functions of layer 4 come to. -/
set_option linter.unusedVariables false
set_option linter.unusedSimpArgs false
set_option maxRecDepth 100000
namespace Go.Proofs.YtfdmjjhgdbpfeaaDoor
open Go.Sx
theorem bd0 (w : World) : (Instr.build 26 ([] : List (Nat × Value)).toArray).run Tryd.prog w = .ok (.agg (dg zd).toArray) w := by kernel_rfl
theorem bd128 (w : World) : (Instr.build 26 [(0, .int .u8 128)].toArray).run Tryd.prog w = .ok (.agg (dg (128 :: List.replicate 31 0)).toArray) w := by kernel_rfl
theorem bd129 (w : World) : (Instr.build 26 [(0, .int .u8 129)].toArray).run Tryd.prog w = .ok (.agg (dg (129 :: List.replicate 31 0)).toArray) w := by kernel_rfl
theorem eg26 : Tryd.prog.eqGuardType Tryd.prog.depth 26 = false := by kernel_rfl
theorem szd {x : Option Nat} {n m : Nat} (h : x = some n) (e : m = n) : x = some m := by rw [h, e]
theorem sz5 : (Tryd.prog.info? 5).map (·.size) = some 1 := by kernel_rfl
theorem sz26 : (Tryd.prog.info? 26).map (·.size) = some 32 := by kernel_rfl
theorem tx84 : Txt Tryd.prog 84 := txt_of Tryd.func84 rfl (by kernel_rfl)
theorem tx96 : Txt Tryd.prog 96 := txt_of Tryd.func96 rfl (by kernel_rfl)
theorem tx98 : Txt Tryd.prog 98 := txt_of Tryd.func98 rfl (by kernel_rfl)
theorem tx99 : Txt Tryd.prog 99 := txt_of Tryd.func99 rfl (by kernel_rfl)
theorem tx101 : Txt Tryd.prog 101 := txt_of Tryd.func101 rfl (by kernel_rfl)

theorem mask_w (i : Int) (w : World) (h0 : 0 ≤ i) (h1 : i < 256) :
    Calls Tryd.prog 99 #[.int .i64 i] w fun e w' => e = .returned (.int .u8 (wt i)) ∧ Fr [] w w' := by
  refine calls_of (args := [.int .i64 i]) ([]) ([]) ([]) Tryd.func99 rfl rfl (okW0 _ _ _ _) ?_
  refine J_seq ?_
  refine J_region ?_
  refine L_v rfl rfl rfl (V_assign rfl rfl) ?_
  refine L_nil ?_
  change J _ _ _ _
  refine J_seq ?_
  refine J_region ?_
  refine L_v rfl rfl rfl (V_move rfl rfl) ?_
  refine L_v rfl rfl rfl (V_rem rfl rfl rfl (by omega) (by first | exact r64 (by omega) | rfl)) ?_
  refine L_v rfl rfl rfl (V_sub rfl rfl rfl (by first | exact Go.IntWalk.i64_in _ (by omega) | rfl)) ?_
  refine L_v rfl rfl rfl (V_shl rfl rfl rfl (by omega) rfl) ?_
  refine L_v rfl rfl rfl (V_assign rfl rfl) ?_
  refine L_nil ?_
  change J _ _ _ _
  refine J_ret ?_
  change Kret _ _ _ Exit.ret _
  refine ret1 rfl rfl (RV_t rfl) ?_
  exact fun w' h => ⟨by rw [mask_eq i h0], h.fr⟩

theorem bit_w (d : List Int) (i : Int) (w : World) (hl : d.length = 32) (hb : Byt d) :
    Calls Tryd.prog 89 #[.agg (dg d).toArray, .int .i64 i] w fun e w' => e = .returned (.tuple #[.int .i64 (bitV d i), .int .i64 (bitE i)]) ∧ Fr [] w w' := by
  refine calls_of (args := [.agg (dg d).toArray, .int .i64 i]) ([]) ([]) ([]) Tryd.func89 rfl rfl (okW0 _ _ _ _) ?_
  refine J_seq ?_
  refine J_region ?_
  refine L_box rfl rfl rfl rfl rfl (fun b0 => ?_)
  refine L_v rfl rfl rfl (V_assign rfl rfl) ?_
  refine L_v rfl rfl rfl (V_assign rfl rfl) ?_
  refine L_nil ?_
  change J _ _ _ _
  refine J_seq ?_
  refine J_seq ?_
  refine J_region ?_
  refine L_v rfl rfl rfl (V_move rfl rfl) ?_
  refine L_v rfl rfl rfl (V_lss rfl rfl rfl (by first | exact decide_eq_true (by omega) | exact decide_eq_false (by omega) | rfl)) ?_
  refine L_v rfl rfl rfl (V_move rfl rfl) ?_
  refine L_split 8 rfl (fun h1 => ?_) (fun h1 => ?_)
  ·
    first | (have h1 := of_decide_eq_true h1) | (have h1 := of_decide_eq_false h1) | skip
    refine L_skip rfl rfl rfl rfl rfl rfl rfl ?_
    refine L_skip rfl rfl rfl rfl rfl rfl rfl ?_
    first | refine L_v rfl rfl rfl (V_pickT rfl rfl rfl) ?_ | refine L_v rfl rfl rfl (V_pickF rfl rfl rfl) ?_
    refine L_nil ?_
    change J _ _ _ _
    refine J_true rfl ?_
    refine J_seq ?_
    refine J_region ?_
    refine L_v rfl rfl rfl (V_assign rfl rfl) ?_
    refine L_v rfl rfl rfl (V_assign rfl rfl) ?_
    refine L_nil ?_
    change J _ _ _ _
    refine J_ret ?_
    change Kret _ _ _ Exit.ret _
    refine ret2 rfl rfl (RV_t rfl) (RV_t rfl) ?_
    exact fun w' h => ⟨by rw [bitV_out _ _ (by omega), bitE_out _ (by omega)], h.fr⟩
  ·
    first | (have h1 := of_decide_eq_true h1) | (have h1 := of_decide_eq_false h1) | skip
    refine L_wv rfl rfl rfl rfl rfl rfl (V_move rfl rfl) ?_
    refine L_wv rfl rfl rfl rfl rfl rfl (V_geq rfl rfl rfl (by first | exact decide_eq_true (by omega) | exact decide_eq_false (by omega) | rfl)) ?_
    first | refine L_v rfl rfl rfl (V_pickT rfl rfl rfl) ?_ | refine L_v rfl rfl rfl (V_pickF rfl rfl rfl) ?_
    refine L_nil ?_
    change J _ _ _ _
    refine J_cond rfl (fun h2 => ?_) (fun h2 => ?_)
    ·
      first | (have h2 := of_decide_eq_true h2) | (have h2 := of_decide_eq_false h2) | skip
      refine J_seq ?_
      refine J_region ?_
      refine L_v rfl rfl rfl (V_assign rfl rfl) ?_
      refine L_v rfl rfl rfl (V_assign rfl rfl) ?_
      refine L_nil ?_
      change J _ _ _ _
      refine J_ret ?_
      change Kret _ _ _ Exit.ret _
      refine ret2 rfl rfl (RV_t rfl) (RV_t rfl) ?_
      exact fun w' h => ⟨by rw [bitV_out _ _ (by omega), bitE_out _ (by omega)], h.fr⟩
    ·
      first | (have h2 := of_decide_eq_true h2) | (have h2 := of_decide_eq_false h2) | skip
      refine J_skip ?_
      change J _ _ _ _
      refine J_seq ?_
      refine J_seq ?_
      refine J_regionQ rfl (by kernel_rfl) ?_
      refine LQ_v rfl rfl rfl (V_move rfl rfl) ?_
      refine LQ_v rfl rfl rfl (V_quo rfl rfl rfl (by omega) (by first | exact q64 (by omega) (by omega) (by omega) | rfl)) ?_
      refine LQ_v rfl rfl rfl (V_indexArr rfl rfl rfl Tryd.underlying26 sz5 (by omega) (by omega) (by first | exact ix0 _ | exact ix1 _ _ | rfl)) ?_
      refine LQ_v rfl rfl rfl (V_load1 0 rfl rfl rfl Tryd.underlying5 rfl (by first | rfl | exact dg_get (by omega) (by simp only [mix_length]; omega) | exact dg_get (by omega) (by omega))) ?_
      refine LQ_v rfl rfl rfl (V_move rfl rfl) ?_
      refine LQ_callV rfl rfl rfl rfl rfl rfl tx99 (fun w _ => mask_w _ w (by omega) (by omega)) ?_
      refine LQ_v rfl rfl rfl (V_and rfl rfl rfl rfl) ?_
      refine LQ_v rfl rfl rfl (V_neq rfl rfl rfl (by first | exact decide_eq_true (by omega) | exact decide_eq_false (by omega) | rfl)) ?_
      refine LQ_nil ?_
      change J _ _ _ _
      refine J_cond rfl (fun h3 => ?_) (fun h3 => ?_)
      ·
        first | (have h3 := of_decide_eq_true h3) | (have h3 := of_decide_eq_false h3) | skip
        refine J_seq ?_
        refine J_region ?_
        refine L_v rfl rfl rfl (V_assign rfl rfl) ?_
        refine L_v rfl rfl rfl (V_assign rfl rfl) ?_
        refine L_nil ?_
        change J _ _ _ _
        refine J_ret ?_
        change Kret _ _ _ Exit.ret _
        refine ret2 rfl rfl (RV_t rfl) (RV_t rfl) ?_
        exact fun w' h => ⟨by rw [bitV_one d i hb (by omega) (by omega) (by assumption), bitE_in _ (by omega) (by omega)], h.fr⟩
      ·
        first | (have h3 := of_decide_eq_true h3) | (have h3 := of_decide_eq_false h3) | skip
        refine J_skip ?_
        change J _ _ _ _
        refine J_seq ?_
        refine J_region ?_
        refine L_v rfl rfl rfl (V_assign rfl rfl) ?_
        refine L_v rfl rfl rfl (V_assign rfl rfl) ?_
        refine L_nil ?_
        change J _ _ _ _
        refine J_ret ?_
        change Kret _ _ _ Exit.ret _
        refine ret2 rfl rfl (RV_t rfl) (RV_t rfl) ?_
        exact fun w' h => ⟨by rw [bitV_no d i hb (by omega) (by omega) (by assumption), bitE_in _ (by omega) (by omega)], h.fr⟩

theorem len8_w (x : Int) (w : World) (h0 : 0 ≤ x) (h1 : x < 256) :
    Calls Tryd.prog 101 #[.int .u8 x] w fun e w' => e = .returned (.int .i64 (8 - lz8 x)) ∧ Fr [] w w' := by
  refine calls_of (args := [.int .u8 x]) ([]) ([]) ([]) Tryd.func101 rfl rfl (okW0 _ _ _ _) ?_
  refine J_seq ?_
  refine J_region ?_
  refine L_v rfl rfl rfl (V_assign rfl rfl) ?_
  refine L_nil ?_
  change J _ _ _ _
  refine J_seq ?_
  refine J_region ?_
  refine L_v rfl rfl rfl (V_move rfl rfl) ?_
  refine L_v rfl rfl rfl (V_indexStr rfl rfl rfl Tryd.underlying9 h0 (len8_get x h0 h1 (by decide +kernel))) ?_
  refine L_v rfl rfl rfl (V_conv rfl rfl Tryd.underlying5 Tryd.underlying3 (by have := lz8_range x h0 h1; exact Go.IntWalk.i64_in _ (by omega))) ?_
  refine L_v rfl rfl rfl (V_assign rfl rfl) ?_
  refine L_nil ?_
  change J _ _ _ _
  refine J_ret ?_
  change Kret _ _ _ Exit.ret _
  refine ret1 rfl rfl (RV_t rfl) ?_
  exact fun w' h => ⟨rfl, h.fr⟩

theorem lz_w (x : Int) (w : World) (h0 : 0 ≤ x) (h1 : x < 256) :
    Calls Tryd.prog 98 #[.int .u8 x] w fun e w' => e = .returned (.int .i64 (lz8 x)) ∧ Fr [] w w' := by
  have hz := lz8_range x h0 h1
  refine calls_of (args := [.int .u8 x]) ([]) ([]) ([]) Tryd.func98 rfl rfl (okW0 _ _ _ _) ?_
  refine J_seq ?_
  refine J_region ?_
  refine L_v rfl rfl rfl (V_assign rfl rfl) ?_
  refine L_nil ?_
  change J _ _ _ _
  refine J_seq ?_
  refine J_region ?_
  refine L_v rfl rfl rfl (V_move rfl rfl) ?_
  refine L_callV rfl rfl rfl rfl rfl rfl tx101 (fun w _ => len8_w _ w h0 h1) ?_
  refine L_v rfl rfl rfl (V_sub rfl rfl rfl (by first | exact Go.IntWalk.i64_in _ (by omega) | rfl)) ?_
  refine L_v rfl rfl rfl (V_assign rfl rfl) ?_
  refine L_nil ?_
  change J _ _ _ _
  refine J_ret ?_
  change Kret _ _ _ Exit.ret _
  refine ret1 rfl rfl (RV_t rfl) ?_
  exact fun w' h => ⟨by rw [show 8 - (8 - lz8 x) = lz8 x by omega], h.fr⟩

theorem common_w (a b : List Int) (w : World) (ha : a.length = 32) (hb : b.length = 32) (hA : Byt a) (hB : Byt b) :
    Calls Tryd.prog 87 #[.agg (dg a).toArray, .agg (dg b).toArray] w fun e w' => e = .returned (.int .i64 (com a b)) ∧ Fr [] w w' := by
  refine calls_of (args := [.agg (dg a).toArray, .agg (dg b).toArray]) ([]) ([]) ([]) Tryd.func87 rfl rfl (okW0 _ _ _ _) ?_
  refine J_seq ?_
  refine J_region ?_
  refine L_box rfl rfl rfl rfl rfl (fun b0 => ?_)
  refine L_box rfl rfl rfl rfl rfl (fun b1 => ?_)
  refine L_v rfl rfl rfl (V_assign rfl rfl) ?_
  refine L_nil ?_
  change J _ _ _ _
  refine J_seq ?_
  refine J_seq ?_
  refine J_region ?_
  refine L_v rfl rfl rfl (V_move rfl rfl) ?_
  refine L_nil ?_
  change J _ _ _ _
  refine J_block ?_
  refine J_loop (X := Int) (fun k => { env := [(2, .pointer (some ⟨b0, 0, none⟩)), (3, .pointer (some ⟨b1, 0, none⟩)), (7, .int .i64 k)], mem := [(b0, row 26 (dg a)), (b1, row 26 (dg b))] }) (fun k => 0 ≤ k ∧ k ≤ 32 ∧ ∀ j : Int, 0 ≤ j → j < k → nth a j = nth b j) (fun k => (32 - k).toNat) 0 ⟨by omega, by omega, fun j h0 h1 => by omega⟩ ⟨⟨rfl, rfl, rfl, trivial⟩, List.Sublist.refl _, fun f hf => hf, rfl⟩ ?_
  rintro k ⟨hk0, hk1, hk⟩
  refine J_seq ?_
  refine J_region ?_
  refine L_v rfl rfl rfl (V_lss rfl rfl rfl (by first | exact decide_eq_true (by omega) | exact decide_eq_false (by omega) | rfl)) ?_
  refine L_nil ?_
  change J _ _ _ _
  refine J_seq ?_
  refine J_cond rfl (fun h1 => ?_) (fun h1 => ?_)
  ·
    first | (have h1 := of_decide_eq_true h1) | (have h1 := of_decide_eq_false h1) | skip
    refine J_skip ?_
    change J _ _ _ _
    refine J_seq ?_
    refine J_block ?_
    refine J_seq ?_
    refine J_region ?_
    refine L_v rfl rfl rfl (V_move rfl rfl) ?_
    refine L_v rfl rfl rfl (V_assign rfl rfl) ?_
    refine L_nil ?_
    change J _ _ _ _
    refine J_seq ?_
    refine J_regionQ rfl (by kernel_rfl) ?_
    refine LQ_v rfl rfl rfl (V_move rfl rfl) ?_
    refine LQ_v rfl rfl rfl (V_indexArr rfl rfl rfl Tryd.underlying26 sz5 (by omega) (by omega) (by first | exact ix0 _ | exact ix1 _ _ | rfl)) ?_
    refine LQ_v rfl rfl rfl (V_load1 0 rfl rfl rfl Tryd.underlying5 rfl (dg_get (by omega) (by omega))) ?_
    refine LQ_v rfl rfl rfl (V_move rfl rfl) ?_
    refine LQ_v rfl rfl rfl (V_indexArr rfl rfl rfl Tryd.underlying26 sz5 (by omega) (by omega) (by first | exact ix0 _ | exact ix1 _ _ | rfl)) ?_
    refine LQ_v rfl rfl rfl (V_load1 1 rfl rfl rfl Tryd.underlying5 rfl (dg_get (by omega) (by omega))) ?_
    refine LQ_v rfl rfl rfl (V_xor rfl rfl rfl rfl) ?_
    refine LQ_v rfl rfl rfl (V_assign rfl rfl) ?_
    refine LQ_nil ?_
    change J _ _ _ _
    refine J_seq ?_
    refine J_region ?_
    refine L_v rfl rfl rfl (V_move rfl rfl) ?_
    refine L_v rfl rfl rfl (V_neq rfl rfl rfl (by first | exact decide_eq_true (by omega) | exact decide_eq_false (by omega) | rfl)) ?_
    refine L_nil ?_
    change J _ _ _ _
    refine J_cond rfl (fun h2 => ?_) (fun h2 => ?_)
    ·
      first | (have h2 := of_decide_eq_true h2) | (have h2 := of_decide_eq_false h2) | skip
      refine J_seq ?_
      refine J_region ?_
      refine L_v rfl rfl rfl (V_move rfl rfl) ?_
      refine L_v rfl rfl rfl (V_mul rfl rfl rfl (by first | exact Go.IntWalk.i64_in _ (by omega) | rfl)) ?_
      refine L_v rfl rfl rfl (V_move rfl rfl) ?_
      refine L_callV rfl rfl rfl rfl rfl rfl tx98 (fun w _ => lz_w _ w (xor_range (hA.nth _) (hB.nth _)).1 (xor_range (hA.nth _) (hB.nth _)).2) ?_
      refine L_v rfl rfl rfl (V_add rfl rfl rfl (by have := lz8_range _ (xor_range (hA.nth k) (hB.nth k)).1 (xor_range (hA.nth k) (hB.nth k)).2; exact Go.IntWalk.i64_in _ (by omega))) ?_
      refine L_v rfl rfl rfl (V_assign rfl rfl) ?_
      refine L_nil ?_
      change J _ _ _ _
      refine J_ret ?_
      change Kret _ _ _ Exit.ret _
      refine ret1 rfl rfl (RV_t rfl) ?_
      exact fun w' h => ⟨by rw [com_byte hA hB hk0 (by omega) hk (by assumption)], h.fr⟩
    ·
      first | (have h2 := of_decide_eq_true h2) | (have h2 := of_decide_eq_false h2) | skip
      refine J_skip ?_
      change J _ _ _ _
      refine J_region ?_
      refine L_v rfl rfl rfl (V_add rfl rfl rfl (by first | exact Go.IntWalk.i64_in _ (by omega) | rfl)) ?_
      refine L_v rfl rfl rfl (V_move rfl rfl) ?_
      refine L_nil ?_
      have hxy := (xor_zero (hA.nth k) (hB.nth k)).1 (Classical.not_not.1 h2)
      exact ⟨k + 1, ⟨by omega, by omega, fun j g0 g1 => (by by_cases e : j = k; (rw [e]; exact hxy); exact hk j g0 (by omega))⟩, by omega, ⟨rfl, rfl, rfl, trivial⟩, List.Sublist.refl _, fun f hf => hf, rfl⟩
  ·
    first | (have h1 := of_decide_eq_true h1) | (have h1 := of_decide_eq_false h1) | skip
    refine J_exit ?_
    change J _ _ _ _
    refine J_seq ?_
    refine J_region ?_
    refine L_v rfl rfl rfl (V_assign rfl rfl) ?_
    refine L_nil ?_
    change J _ _ _ _
    refine J_ret ?_
    change Kret _ _ _ Exit.ret _
    refine ret1 rfl rfl (RV_t rfl) ?_
    have := com_all (a := a) (b := b) (fun j g0 g1 => hk j g0 (by omega))
    exact fun w' h => ⟨by rw [this], h.fr⟩

theorem weight_w (i : Int) (w : World) (h0 : 0 ≤ i) :
    Calls Tryd.prog 96 #[.int .i64 i] w fun e w' => e = .returned (.int .i64 (wt i)) ∧ Fr [] w w' := by
  refine calls_of (args := [.int .i64 i]) ([]) ([]) ([]) Tryd.func96 rfl rfl (okW0 _ _ _ _) ?_
  refine J_seq ?_
  refine J_region ?_
  refine L_v rfl rfl rfl (V_assign rfl rfl) ?_
  refine L_nil ?_
  change J _ _ _ _
  refine J_seq ?_
  refine J_region ?_
  refine L_v rfl rfl rfl (V_assign rfl rfl) ?_
  refine L_nil ?_
  change J _ _ _ _
  refine J_seq ?_
  refine J_seq ?_
  refine J_region ?_
  refine L_v rfl rfl rfl (V_assign rfl rfl) ?_
  refine L_nil ?_
  change J _ _ _ _
  refine J_block ?_
  refine J_loop (X := Int) (fun k => { env := [(0, .int .i64 i), (3, .int .i64 (128 / 2 ^ k.toNat)), (4, .int .i64 k)] }) (fun k => 0 ≤ k ∧ k ≤ i % 8) (fun k => (8 - k).toNat) 0 ⟨by omega, by omega⟩ ⟨⟨rfl, rfl, rfl, trivial⟩, List.Sublist.refl _, fun f hf => hf, rfl⟩ ?_
  rintro k ⟨hk0, hk1⟩
  refine J_seq ?_
  refine J_seq ?_
  refine J_region ?_
  refine L_v rfl rfl rfl (V_move rfl rfl) ?_
  refine L_v rfl rfl rfl (V_move rfl rfl) ?_
  refine L_v rfl rfl rfl (V_rem rfl rfl rfl (by omega) (by first | exact r64 (by omega) | rfl)) ?_
  refine L_v rfl rfl rfl (V_lss rfl rfl rfl (by first | exact decide_eq_true (by omega) | exact decide_eq_false (by omega) | rfl)) ?_
  refine L_nil ?_
  change J _ _ _ _
  refine J_cond rfl (fun h1 => ?_) (fun h1 => ?_)
  ·
    first | (have h1 := of_decide_eq_true h1) | (have h1 := of_decide_eq_false h1) | skip
    refine J_skip ?_
    change J _ _ _ _
    refine J_seq ?_
    refine J_block ?_
    refine J_region ?_
    refine L_v rfl rfl rfl (V_move rfl rfl) ?_
    refine L_v rfl rfl rfl (V_quo rfl rfl rfl (by omega) (q64 (wt_bd k hk0).1 (wt_bd k hk0).2 (by omega))) ?_
    refine L_v rfl rfl rfl (V_assign rfl rfl) ?_
    refine L_nil ?_
    change J _ _ _ _
    refine J_region ?_
    refine L_v rfl rfl rfl (V_move rfl rfl) ?_
    refine L_v rfl rfl rfl (V_add rfl rfl rfl (by first | exact Go.IntWalk.i64_in _ (by omega) | rfl)) ?_
    refine L_v rfl rfl rfl (V_assign rfl rfl) ?_
    refine L_nil ?_
    exact ⟨k + 1, ⟨by omega, by omega⟩, by omega, ⟨rfl, by rw [wt_half k hk0]; rfl, rfl, trivial⟩, List.Sublist.refl _, fun f hf => hf, rfl⟩
  ·
    first | (have h1 := of_decide_eq_true h1) | (have h1 := of_decide_eq_false h1) | skip
    refine J_exit ?_
    change J _ _ _ _
    refine J_seq ?_
    refine J_region ?_
    refine L_v rfl rfl rfl (V_move rfl rfl) ?_
    refine L_v rfl rfl rfl (V_assign rfl rfl) ?_
    refine L_nil ?_
    change J _ _ _ _
    refine J_ret ?_
    change Kret _ _ _ Exit.ret _
    refine ret1 rfl rfl (RV_t rfl) ?_
    obtain rfl : k = i % 8 := by omega
    exact fun w' h => ⟨by rw [wt_last i], h.fr⟩

theorem at_w (d : List Int) (i : Int) (w : World) (hl : d.length = 32) (hb : Byt d) (h0 : 0 ≤ i) (h1 : i < 256) :
    Calls Tryd.prog 84 #[.agg (dg d).toArray, .int .i64 i] w fun e w' => e = .returned (.int .i64 (bitOf d i)) ∧ Fr [] w w' := by
  have hn := hb.nth (i / 8)
  have hw := wt_pos i
  refine calls_of (args := [.agg (dg d).toArray, .int .i64 i]) ([]) ([]) ([]) Tryd.func84 rfl rfl (okW0 _ _ _ _) ?_
  refine J_seq ?_
  refine J_region ?_
  refine L_box rfl rfl rfl rfl rfl (fun b0 => ?_)
  refine L_v rfl rfl rfl (V_assign rfl rfl) ?_
  refine L_nil ?_
  change J _ _ _ _
  refine J_seq ?_
  refine J_regionQ rfl (by kernel_rfl) ?_
  refine LQ_v rfl rfl rfl (V_move rfl rfl) ?_
  refine LQ_v rfl rfl rfl (V_quo rfl rfl rfl (by omega) (by first | exact q64 (by omega) (by omega) (by omega) | rfl)) ?_
  refine LQ_v rfl rfl rfl (V_indexArr rfl rfl rfl Tryd.underlying26 sz5 (by omega) (by omega) (by first | exact ix0 _ | exact ix1 _ _ | rfl)) ?_
  refine LQ_v rfl rfl rfl (V_load1 0 rfl rfl rfl Tryd.underlying5 rfl (by first | rfl | exact dg_get (by omega) (by simp only [mix_length]; omega) | exact dg_get (by omega) (by omega))) ?_
  refine LQ_v rfl rfl rfl (V_conv rfl rfl Tryd.underlying5 Tryd.underlying3 (by first | exact Go.IntWalk.i64_in _ (by omega) | rfl)) ?_
  refine LQ_v rfl rfl rfl (V_move rfl rfl) ?_
  refine LQ_callV rfl rfl rfl rfl rfl rfl tx96 (fun w _ => weight_w _ w (by omega)) ?_
  refine LQ_v rfl rfl rfl (V_quo rfl rfl rfl (by omega) (by first | exact q64 (by omega) (by omega) (by omega) | rfl)) ?_
  refine LQ_v rfl rfl rfl (V_rem rfl rfl rfl (by omega) (r64 (Int.ediv_nonneg hn.1 (by omega)))) ?_
  refine LQ_v rfl rfl rfl (V_assign rfl rfl) ?_
  refine LQ_nil ?_
  change J _ _ _ _
  refine J_ret ?_
  change Kret _ _ _ Exit.ret _
  refine ret1 rfl rfl (RV_t rfl) ?_
  exact fun w' h => ⟨rfl, h.fr⟩

theorem rcommon_w (a b : List Int) (w : World) (ha : a.length = 32) (hb : b.length = 32) (hA : Byt a) (hB : Byt b) :
    Calls Tryd.prog 82 #[.agg (dg a).toArray, .agg (dg b).toArray] w fun e w' => e = .returned (.int .i64 (com a b)) ∧ Fr [] w w' := by
  refine calls_of (args := [.agg (dg a).toArray, .agg (dg b).toArray]) ([]) ([]) ([]) Tryd.func82 rfl rfl (okW0 _ _ _ _) ?_
  refine J_seq ?_
  refine J_region ?_
  refine L_box rfl rfl rfl rfl rfl (fun b0 => ?_)
  refine L_box rfl rfl rfl rfl rfl (fun b1 => ?_)
  refine L_v rfl rfl rfl (V_assign rfl rfl) ?_
  refine L_nil ?_
  change J _ _ _ _
  refine J_seq ?_
  refine J_region ?_
  refine L_v rfl rfl rfl (V_assign rfl rfl) ?_
  refine L_nil ?_
  change J _ _ _ _
  refine J_seq ?_
  refine J_block ?_
  refine J_loop (X := Int) (fun k => { env := [(2, .pointer (some ⟨b0, 0, none⟩)), (3, .pointer (some ⟨b1, 0, none⟩)), (5, .int .i64 k)], mem := [(b0, row 26 (dg a)), (b1, row 26 (dg b))] }) (fun k => 0 ≤ k ∧ k ≤ 256 ∧ ∀ j : Int, 0 ≤ j → j < k → bitOf a j = bitOf b j) (fun k => (256 - k).toNat) 0 ⟨by omega, by omega, fun j h0 h1 => by omega⟩ ⟨⟨rfl, rfl, rfl, trivial⟩, List.Sublist.refl _, fun f hf => hf, rfl⟩ ?_
  rintro k ⟨hk0, hk1, hk⟩
  refine J_seq ?_
  refine J_seq ?_
  refine J_regionQ rfl (by kernel_rfl) ?_
  refine LQ_v rfl rfl rfl (V_move rfl rfl) ?_
  refine LQ_v rfl rfl rfl (V_lss rfl rfl rfl (by first | exact decide_eq_true (by omega) | exact decide_eq_false (by omega) | rfl)) ?_
  refine LQ_v rfl rfl rfl (V_move rfl rfl) ?_
  refine LQ_split 8 rfl (fun h1 => ?_) (fun h1 => ?_)
  ·
    first | (have h1 := of_decide_eq_true h1) | (have h1 := of_decide_eq_false h1) | skip
    refine LQ_wv rfl rfl rfl rfl rfl rfl (V_loadW 0 rfl rfl rfl Tryd.underlying26 rfl (szd sz26 (by simp [dg_length, setBit_length, mix_length, zd_length, pre, withV_length, preV_length, *]))) ?_
    refine LQ_wv rfl rfl rfl rfl rfl rfl (V_move rfl rfl) ?_
    refine LQ_wcallV rfl rfl rfl rfl rfl rfl rfl rfl rfl tx84 (fun w _ => at_w _ _ w (by first | assumption | (simp [setBit_length, mix_length, zd_length, withV_length, preV_length, *]; done) | rfl) (by first | assumption | exact byt128 | exact byt129 | exact withV_byt (by assumption) _ _ | exact preV_byt (by assumption) _) (by omega) (by omega)) ?_
    refine LQ_wv rfl rfl rfl rfl rfl rfl (V_loadW 1 rfl rfl rfl Tryd.underlying26 rfl (szd sz26 (by simp [dg_length, setBit_length, mix_length, zd_length, pre, withV_length, preV_length, *]))) ?_
    refine LQ_wv rfl rfl rfl rfl rfl rfl (V_move rfl rfl) ?_
    refine LQ_wcallV rfl rfl rfl rfl rfl rfl rfl rfl rfl tx84 (fun w _ => at_w _ _ w (by first | assumption | (simp [setBit_length, mix_length, zd_length, withV_length, preV_length, *]; done) | rfl) (by first | assumption | exact byt128 | exact byt129 | exact withV_byt (by assumption) _ _ | exact preV_byt (by assumption) _) (by omega) (by omega)) ?_
    refine LQ_wv rfl rfl rfl rfl rfl rfl (V_eql rfl rfl rfl (by first | exact decide_eq_true (by omega) | exact decide_eq_false (by omega) | rfl)) ?_
    first | refine LQ_v rfl rfl rfl (V_pickT rfl rfl rfl) ?_ | refine LQ_v rfl rfl rfl (V_pickF rfl rfl rfl) ?_
    refine LQ_nil ?_
    change J _ _ _ _
    refine J_cond rfl (fun h2 => ?_) (fun h2 => ?_)
    ·
      first | (have h2 := of_decide_eq_true h2) | (have h2 := of_decide_eq_false h2) | skip
      refine J_skip ?_
      change J _ _ _ _
      refine J_block ?_
      refine J_region ?_
      refine L_v rfl rfl rfl (V_move rfl rfl) ?_
      refine L_v rfl rfl rfl (V_add rfl rfl rfl (by first | exact Go.IntWalk.i64_in _ (by omega) | rfl)) ?_
      refine L_v rfl rfl rfl (V_assign rfl rfl) ?_
      refine L_nil ?_
      exact ⟨k + 1, ⟨by omega, by omega, fun j g0 g1 => (by by_cases e : j = k; (rw [e]; assumption); exact hk j g0 (by omega))⟩, by omega, ⟨rfl, rfl, rfl, trivial⟩, List.Sublist.refl _, fun f hf => hf, rfl⟩
    ·
      first | (have h2 := of_decide_eq_true h2) | (have h2 := of_decide_eq_false h2) | skip
      refine J_exit ?_
      change J _ _ _ _
      refine J_seq ?_
      refine J_region ?_
      refine L_v rfl rfl rfl (V_move rfl rfl) ?_
      refine L_v rfl rfl rfl (V_assign rfl rfl) ?_
      refine L_nil ?_
      change J _ _ _ _
      refine J_ret ?_
      change Kret _ _ _ Exit.ret _
      refine ret1 rfl rfl (RV_t rfl) ?_
      exact fun w' h => ⟨by rw [← com_unique hk0 (by omega) hk (fun _ => by assumption)], h.fr⟩
  ·
    first | (have h1 := of_decide_eq_true h1) | (have h1 := of_decide_eq_false h1) | skip
    refine LQ_skip rfl rfl rfl rfl rfl rfl rfl ?_
    refine LQ_skip rfl rfl rfl rfl rfl rfl rfl ?_
    refine LQ_skip rfl rfl rfl rfl rfl rfl rfl ?_
    refine LQ_skip rfl rfl rfl rfl rfl rfl rfl ?_
    refine LQ_skip rfl rfl rfl rfl rfl rfl rfl ?_
    refine LQ_skip rfl rfl rfl rfl rfl rfl rfl ?_
    refine LQ_skip rfl rfl rfl rfl rfl rfl rfl ?_
    first | refine LQ_v rfl rfl rfl (V_pickT rfl rfl rfl) ?_ | refine LQ_v rfl rfl rfl (V_pickF rfl rfl rfl) ?_
    refine LQ_nil ?_
    change J _ _ _ _
    refine J_false rfl ?_
    refine J_exit ?_
    change J _ _ _ _
    refine J_seq ?_
    refine J_region ?_
    refine L_v rfl rfl rfl (V_move rfl rfl) ?_
    refine L_v rfl rfl rfl (V_assign rfl rfl) ?_
    refine L_nil ?_
    change J _ _ _ _
    refine J_ret ?_
    change Kret _ _ _ Exit.ret _
    refine ret1 rfl rfl (RV_t rfl) ?_
    exact fun w' h => ⟨by rw [← com_unique hk0 (by omega) hk (fun h => by omega)], h.fr⟩

end Go.Proofs.YtfdmjjhgdbpfeaaDoor
