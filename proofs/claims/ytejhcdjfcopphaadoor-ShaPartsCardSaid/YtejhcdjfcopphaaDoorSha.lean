/- What the functions of layer 2 make of a block. -/
import Derived.Test.YtejhcdjfcopphaaDoorSx3
import Derived.Test.YtejhcdjfcopphaaDoorOctetPure
import Derived.Test.YtejhcdjfcopphaaDoorProg
set_option linter.unusedVariables false
set_option linter.unusedSimpArgs false
set_option maxRecDepth 100000
namespace Go.Proofs.YtejhcdjfcopphaaDoor
open Go.Sx
theorem bd8 (a b c d e f g h : Wd) (w : World) : (Instr.build 41 [(0, wv a), (1, wv b), (2, wv c), (3, wv d), (4, wv e), (5, wv f), (6, wv g), (7, wv h)].toArray).run Tryd.prog w = .ok (.agg (wl [a, b, c, d, e, f, g, h]).toArray) w := by kernel_rfl
theorem bdH (r : R8) (w : World) : (Instr.build 48 [(0, .agg (wl r.l).toArray)].toArray).run Tryd.prog w = .ok (.agg (hL r.l (List.replicate 64 0) 0).toArray) w := by kernel_rfl
theorem sz5h : (Tryd.prog.info? 5).map (·.size) = some 1 := by kernel_rfl
theorem sz40h : (Tryd.prog.info? 40).map (·.size) = some 1 := by kernel_rfl
theorem sz41h : (Tryd.prog.info? 41).map (·.size) = some 8 := by kernel_rfl
theorem sz44h : (Tryd.prog.info? 44).map (·.size) = some 64 := by kernel_rfl
theorem sz46h : (Tryd.prog.info? 46).map (·.size) = some 64 := by kernel_rfl
theorem tx27h : Txt Tryd.prog 27 := txt_of Tryd.func27 rfl (by kernel_rfl)
theorem z44h : (Tryd.prog.info? 44).bind (·.zero) = some (.agg (wl (List.replicate 64 0)).toArray) := by kernel_rfl

theorem rotl_w (x : Wd) (k : Nat) (w : World) (h1 : 1 ≤ k) (h2 : k ≤ 31) :
    Calls Tryd.prog 27 #[wv x, .int .i64 (-(k : Int))] w fun e w' => e = .returned (wv (rr k x)) ∧ Fr [] w w' := by
  refine calls_of (args := [wv x, .int .i64 (-(k : Int))]) ([]) ([]) ([]) Tryd.func27 rfl rfl (okW0 _ _ _ _) ?_
  refine J_seq ?_
  refine J_region ?_
  refine L_v rfl rfl rfl (V_assign rfl rfl) ?_
  refine L_nil ?_
  change J _ _ _ _
  refine J_seq ?_
  refine J_region ?_
  refine L_v rfl rfl rfl (V_move rfl rfl) ?_
  refine L_v rfl rfl rfl (V_conv (r := 18446744073709551616 - (k : Int)) rfl rfl Tryd.underlying3 Tryd.underlying51 (by rw [show IntKind.u64.wrap (-(k : Int)) = (-(k : Int)) % 18446744073709551616 by simp [IntKind.wrap, IntKind.bits, IntKind.signed]]; omega)) ?_
  refine L_v rfl rfl rfl (V_and rfl rfl rfl (and31 k (by omega) h1)) ?_
  refine L_v rfl rfl rfl (V_assign rfl rfl) ?_
  refine L_nil ?_
  change J _ _ _ _
  refine J_seq ?_
  refine J_region ?_
  refine L_v rfl rfl rfl (V_move rfl rfl) ?_
  refine L_v rfl rfl rfl (V_move rfl rfl) ?_
  refine L_v rfl rfl rfl (V_shl rfl rfl rfl (by omega) (w_shlk x k h2)) ?_
  refine L_v rfl rfl rfl (V_move rfl rfl) ?_
  refine L_v rfl rfl rfl (V_move rfl rfl) ?_
  refine L_v rfl rfl rfl (V_sub (r := (k : Int)) rfl rfl rfl (by rw [show (32 - (32 - (k : Int))) = k by omega]; exact Go.IntWalk.u64_in _ (by omega))) ?_
  refine L_v rfl rfl rfl (V_shr rfl rfl rfl (by omega) (w_shr x k (by omega))) ?_
  refine L_v rfl rfl rfl (V_or rfl rfl rfl ((w_or _ _).trans (congrArg wi (rr_comm k x)))) ?_
  refine L_v rfl rfl rfl (V_assign rfl rfl) ?_
  refine L_nil ?_
  change J _ _ _ _
  refine J_ret ?_
  change Kret _ _ _ Exit.ret _
  refine ret1 rfl rfl (RV_t rfl) ?_
  exact fun w' h => ⟨rfl, h.fr⟩

theorem turned_w (x : Wd) (k : Nat) (w : World) (h1 : 1 ≤ k) (h2 : k ≤ 31) :
    Calls Tryd.prog 24 #[wv x, .int .i64 (k : Int)] w fun e w' => e = .returned (wv (rr k x)) ∧ Fr [] w w' := by
  refine calls_of (args := [wv x, .int .i64 (k : Int)]) ([]) ([]) ([]) Tryd.func24 rfl rfl (okW0 _ _ _ _) ?_
  refine J_seq ?_
  refine J_region ?_
  refine L_v rfl rfl rfl (V_assign rfl rfl) ?_
  refine L_nil ?_
  change J _ _ _ _
  refine J_seq ?_
  refine J_regionQ rfl (by kernel_rfl) ?_
  refine LQ_v rfl rfl rfl (V_move rfl rfl) ?_
  refine LQ_v rfl rfl rfl (V_move rfl rfl) ?_
  refine LQ_v rfl rfl rfl (V_shr rfl rfl rfl (by omega) (w_shr x k (by omega))) ?_
  refine LQ_v rfl rfl rfl (V_move rfl rfl) ?_
  refine LQ_v rfl rfl rfl (V_move rfl rfl) ?_
  refine LQ_v rfl rfl rfl (V_sub rfl rfl rfl (by first | exact Go.IntWalk.i64_in _ (by omega) | rfl)) ?_
  refine LQ_v rfl rfl rfl (V_shl rfl rfl rfl (by omega) (w_shlk x k h2)) ?_
  refine LQ_v rfl rfl rfl (V_or rfl rfl rfl (w_or _ _)) ?_
  refine LQ_v rfl rfl rfl (V_assign rfl rfl) ?_
  refine LQ_nil ?_
  change J _ _ _ _
  refine J_ret ?_
  change Kret _ _ _ Exit.ret _
  refine ret1 rfl rfl (RV_t rfl) ?_
  exact fun w' h => ⟨rfl, h.fr⟩

theorem mix_w (b : Nat) (ws : R8) (bl : List Int) (n : Int) (w : World) (hb : w.heap[b]? = some (row 48 (hL ws.l bl n))) (hbl : bl.length = 64) (hby : Byt bl) (hK : TabK KT 1 w) (hbg : b ≠ 1) :
    Calls Tryd.prog 23 #[.pointer (some ⟨b, 0, none⟩)] w fun e w' => e = .returned (.tuple #[]) ∧ Fr [b] w w' ∧ w'.heap[b]? = some (row 48 (hL (blk KT ws bl).l bl n)) := by
  refine calls_of (args := [.pointer (some ⟨b, 0, none⟩)]) ([b]) ([(b, row 48 (hL ws.l bl n))]) ([]) Tryd.func23 rfl rfl (okM1 hb (fun f hf => by simp at hf)) ?_
  refine J_seq ?_
  refine J_region ?_
  refine L_alloc rfl rfl rfl rfl z44h (fun b1 => ?_)
  refine L_nil ?_
  change J _ _ _ _
  refine J_seq ?_
  refine J_seq ?_
  refine J_region ?_
  refine L_v rfl rfl rfl (V_move rfl rfl) ?_
  refine L_nil ?_
  change J _ _ _ _
  refine J_block ?_
  refine J_loop (X := Nat) (fun t => { env := [(0, .pointer (some ⟨b, 0, none⟩)), (2, .pointer (some ⟨b1, 0, none⟩)), (25, .int .i64 (t : Int))], mem := [(b, row 48 (hL ws.l bl n)), (b1, row 44 (wl (arr bl t)))] }) (fun t => t ≤ 64) (fun t => 64 - t) 0 (Nat.zero_le _) ⟨⟨rfl, rfl, rfl, trivial⟩, List.Sublist.refl _, fun f hf => hf, rfl⟩ ?_
  rintro t ht
  refine J_seq ?_
  refine J_region ?_
  refine L_v rfl rfl rfl (V_lss rfl rfl rfl (by first | exact decide_eq_true (by omega) | exact decide_eq_false (by omega) | rfl)) ?_
  refine L_nil ?_
  change J _ _ _ _
  refine J_seq ?_
  refine J_cond rfl (fun h1 => ?_) (fun h1 => ?_)
  ·
    first | (have h1 := h1; rw [decide_eq_true_eq] at h1) | (have h1 := h1; rw [decide_eq_false_iff_not] at h1) | skip
    refine J_skip ?_
    change J _ _ _ _
    refine J_seq ?_
    refine J_block ?_
    refine J_seq ?_
    refine J_region ?_
    refine L_v rfl rfl rfl (V_move rfl rfl) ?_
    refine L_v rfl rfl rfl (V_assign rfl rfl) ?_
    refine L_nil ?_
    change J _ _ _ _
    refine J_seq ?_
    refine J_seq ?_
    refine J_region ?_
    refine L_v rfl rfl rfl (V_move rfl rfl) ?_
    refine L_v rfl rfl rfl (V_lss rfl rfl rfl (by first | exact decide_eq_true (by omega) | exact decide_eq_false (by omega) | rfl)) ?_
    refine L_nil ?_
    change J _ _ _ _
    refine J_cond rfl (fun h2 => ?_) (fun h2 => ?_)
    ·
      first | (have h2 := h2; rw [decide_eq_true_eq] at h2) | (have h2 := h2; rw [decide_eq_false_iff_not] at h2) | skip
      have q0 := byt_getD hby (4 * t)
      have q1 := byt_getD hby (4 * t + 1)
      have q2 := byt_getD hby (4 * t + 2)
      have q3 := byt_getD hby (4 * t + 3)
      refine J_seq ?_
      refine J_region ?_
      refine L_v rfl rfl rfl (V_move rfl rfl) ?_
      refine L_v rfl rfl rfl (V_nilCheck rfl rfl) ?_
      refine L_v rfl rfl rfl (V_fieldAddr rfl rfl Tryd.underlying48 rfl sz46h rfl) ?_
      refine L_v rfl rfl rfl (V_move rfl rfl) ?_
      refine L_v rfl rfl rfl (V_mul rfl rfl rfl (by first | exact Go.IntWalk.i64_in _ (by omega) | rfl)) ?_
      refine L_v rfl rfl rfl (V_sliceArrS (l := 4 * t) rfl rfl Tryd.underlying46 sz5h (Bd.at rfl (by omega)) rfl (by omega) (by omega) (by rw [if_neg (by omega)])) ?_
      refine L_v rfl rfl rfl (V_assign rfl rfl) ?_
      refine L_nil ?_
      change J _ _ _ _
      refine J_seq ?_
      refine J_regionT 24 rfl (by kernel_rfl) ?_
      refine LQ_v rfl rfl rfl (V_move rfl rfl) ?_
      refine LQ_v rfl rfl rfl (V_move rfl rfl) ?_
      refine LQ_v rfl rfl rfl (V_indexSl rfl rfl rfl Tryd.underlying22 sz5h (by omega) (by omega) (by first | exact ix0 _ | exact ix1 _ _ | rfl)) ?_
      refine LQ_v rfl rfl rfl (V_load1 0 rfl rfl rfl Tryd.underlying5 rfl (hL_byte (4 * t) rfl (by first | omega | (simp; done) | (simp; omega)) (by omega))) ?_
      refine LQ_v rfl rfl rfl (V_conv rfl rfl Tryd.underlying5 Tryd.underlying40 (Go.IntWalk.u32_in _ (by omega))) ?_
      refine LQ_v rfl rfl rfl (V_shl rfl rfl rfl (by decide) (shl24 q0)) ?_
      refine LQ_v rfl rfl rfl (V_move rfl rfl) ?_
      refine LQ_v rfl rfl rfl (V_indexSl rfl rfl rfl Tryd.underlying22 sz5h (by omega) (by omega) (by first | exact ix0 _ | exact ix1 _ _ | rfl)) ?_
      refine LQ_v rfl rfl rfl (V_load1 0 rfl rfl rfl Tryd.underlying5 rfl (hL_byte (4 * t + 1) rfl (by first | omega | (simp; done) | (simp; omega)) (by omega))) ?_
      refine LQ_v rfl rfl rfl (V_conv rfl rfl Tryd.underlying5 Tryd.underlying40 (Go.IntWalk.u32_in _ (by omega))) ?_
      refine LQ_v rfl rfl rfl (V_shl rfl rfl rfl (by decide) (shl16 q1)) ?_
      refine LQ_v rfl rfl rfl (V_or rfl rfl rfl (or1 q0 q1)) ?_
      refine LQ_v rfl rfl rfl (V_move rfl rfl) ?_
      refine LQ_v rfl rfl rfl (V_indexSl rfl rfl rfl Tryd.underlying22 sz5h (by omega) (by omega) (by first | exact ix0 _ | exact ix1 _ _ | rfl)) ?_
      refine LQ_v rfl rfl rfl (V_load1 0 rfl rfl rfl Tryd.underlying5 rfl (hL_byte (4 * t + 2) rfl (by first | omega | (simp; done) | (simp; omega)) (by omega))) ?_
      refine LQ_v rfl rfl rfl (V_conv rfl rfl Tryd.underlying5 Tryd.underlying40 (Go.IntWalk.u32_in _ (by omega))) ?_
      refine LQ_v rfl rfl rfl (V_shl rfl rfl rfl (by decide) (shl8 q2)) ?_
      refine LQ_v rfl rfl rfl (V_or rfl rfl rfl (or2 q0 q1 q2)) ?_
      refine LQ_v rfl rfl rfl (V_move rfl rfl) ?_
      refine LQ_v rfl rfl rfl (V_indexSl rfl rfl rfl Tryd.underlying22 sz5h (by omega) (by omega) (by first | exact ix0 _ | exact ix1 _ _ | rfl)) ?_
      refine LQ_v rfl rfl rfl (V_load1 0 rfl rfl rfl Tryd.underlying5 rfl (hL_byte (4 * t + 3) rfl (by first | omega | (simp; done) | (simp; omega)) (by omega))) ?_
      refine LQ_v rfl rfl rfl (V_conv rfl rfl Tryd.underlying5 Tryd.underlying40 (Go.IntWalk.u32_in _ (by omega))) ?_
      refine LQ_v rfl rfl rfl (V_or rfl rfl rfl (or3 q0 q1 q2 q3)) ?_
      refine LQ_v rfl rfl rfl (V_indexArr rfl rfl rfl Tryd.underlying44 sz40h (by omega) (by omega) (by first | exact ix0 _ | exact ix1 _ _ | rfl)) ?_
      refine LQ_nil ?_
      refine L_store1 1 rfl rfl rfl rfl rfl rfl rfl sz40h (by first | exact Nat.zero_lt_succ _ | (rw [wl_len, acc_len _ _ _ (by omega)]; omega) | (rw [wl_len, arr_len _ (by omega)]; omega) | (rw [hL_len _ (acc_len _ _ _ (by omega)) hbl]; omega)) rfl ?_
      refine L_nil ?_
      change J _ _ _ _
      refine J_exit ?_
      change J _ _ _ _
      refine J_region ?_
      refine L_v rfl rfl rfl (V_add rfl rfl rfl (by first | exact Go.IntWalk.i64_in _ (by omega) | rfl)) ?_
      refine L_v rfl rfl rfl (V_move rfl rfl) ?_
      refine L_nil ?_
      have e9 : (wl (arr bl t)).set ((t : Nat) : Int).toNat (.int .u32 (bl.getD (4 * t) 0 * 16777216 + bl.getD (4 * t + 1) 0 * 65536 + bl.getD (4 * t + 2) 0 * 256 + bl.getD (4 * t + 3) 0)) = wl (arr bl (t + 1)) := by
        rw [Int.toNat_natCast, show (Value.int .u32 (bl.getD (4 * t) 0 * 16777216 + bl.getD (4 * t + 1) 0 * 65536 + bl.getD (4 * t + 2) 0 * 256 + bl.getD (4 * t + 3) 0)) = wv (if t < 16 then wd bl t else nx (sch bl t) t) from by rw [if_pos (by omega), wi_wd q0 q1 q2 q3], wl_set, arr_set bl (by omega)]
      exact ⟨t + 1, by omega, by omega, ⟨rfl, rfl, rfl, trivial⟩, (by rw [← e9]; exact List.Sublist.refl _), fun f hf => hf, rfl⟩
    ·
      first | (have h2 := h2; rw [decide_eq_true_eq] at h2) | (have h2 := h2; rw [decide_eq_false_iff_not] at h2) | skip
      refine J_skip ?_
      change J _ _ _ _
      refine J_seq ?_
      refine J_regionQ rfl (by kernel_rfl) ?_
      refine LQ_v rfl rfl rfl (V_move rfl rfl) ?_
      refine LQ_v rfl rfl rfl (V_sub rfl rfl rfl (by first | exact Go.IntWalk.i64_in _ (by omega) | rfl)) ?_
      refine LQ_v rfl rfl rfl (V_indexArr rfl rfl rfl Tryd.underlying44 sz40h (by omega) (by omega) (by first | exact ix0 _ | exact ix1 _ _ | rfl)) ?_
      refine LQ_v rfl rfl rfl (V_load1 1 rfl rfl rfl Tryd.underlying40 rfl (wl_get (by omega) (by rw [arr_len _ (by omega)]; omega))) ?_
      refine LQ_v rfl rfl rfl (V_move rfl rfl) ?_
      refine LQ_v rfl rfl rfl (V_sub rfl rfl rfl (by first | exact Go.IntWalk.i64_in _ (by omega) | rfl)) ?_
      refine LQ_v rfl rfl rfl (V_indexArr rfl rfl rfl Tryd.underlying44 sz40h (by omega) (by omega) (by first | exact ix0 _ | exact ix1 _ _ | rfl)) ?_
      refine LQ_v rfl rfl rfl (V_load1 1 rfl rfl rfl Tryd.underlying40 rfl (wl_get (by omega) (by rw [arr_len _ (by omega)]; omega))) ?_
      refine LQ_v rfl rfl rfl (V_assign rfl rfl) ?_
      refine LQ_v rfl rfl rfl (V_assign rfl rfl) ?_
      refine LQ_nil ?_
      change J _ _ _ _
      refine J_seq ?_
      refine J_region ?_
      refine L_v rfl rfl rfl (V_move rfl rfl) ?_
      refine L_callV rfl rfl rfl rfl rfl rfl tx27h (fun w _ => rotl_w _ 7 w (by decide) (by decide)) ?_
      refine L_v rfl rfl rfl (V_move rfl rfl) ?_
      refine L_callV rfl rfl rfl rfl rfl rfl tx27h (fun w _ => rotl_w _ 18 w (by decide) (by decide)) ?_
      refine L_v rfl rfl rfl (V_xor rfl rfl rfl (w_xor _ _)) ?_
      refine L_v rfl rfl rfl (V_move rfl rfl) ?_
      refine L_v rfl rfl rfl (V_shr rfl rfl rfl (by decide) (w_shr _ 3 (by decide))) ?_
      refine L_v rfl rfl rfl (V_xor rfl rfl rfl (w_xor _ _)) ?_
      refine L_v rfl rfl rfl (V_assign rfl rfl) ?_
      refine L_nil ?_
      change J _ _ _ _
      refine J_seq ?_
      refine J_region ?_
      refine L_v rfl rfl rfl (V_move rfl rfl) ?_
      refine L_callV rfl rfl rfl rfl rfl rfl tx27h (fun w _ => rotl_w _ 17 w (by decide) (by decide)) ?_
      refine L_v rfl rfl rfl (V_move rfl rfl) ?_
      refine L_callV rfl rfl rfl rfl rfl rfl tx27h (fun w _ => rotl_w _ 19 w (by decide) (by decide)) ?_
      refine L_v rfl rfl rfl (V_xor rfl rfl rfl (w_xor _ _)) ?_
      refine L_v rfl rfl rfl (V_move rfl rfl) ?_
      refine L_v rfl rfl rfl (V_shr rfl rfl rfl (by decide) (w_shr _ 10 (by decide))) ?_
      refine L_v rfl rfl rfl (V_xor rfl rfl rfl (w_xor _ _)) ?_
      refine L_v rfl rfl rfl (V_assign rfl rfl) ?_
      refine L_nil ?_
      change J _ _ _ _
      refine J_regionT 15 rfl (by kernel_rfl) ?_
      refine LQ_v rfl rfl rfl (V_move rfl rfl) ?_
      refine LQ_v rfl rfl rfl (V_move rfl rfl) ?_
      refine LQ_v rfl rfl rfl (V_sub rfl rfl rfl (by first | exact Go.IntWalk.i64_in _ (by omega) | rfl)) ?_
      refine LQ_v rfl rfl rfl (V_indexArr rfl rfl rfl Tryd.underlying44 sz40h (by omega) (by omega) (by first | exact ix0 _ | exact ix1 _ _ | rfl)) ?_
      refine LQ_v rfl rfl rfl (V_load1 1 rfl rfl rfl Tryd.underlying40 rfl (wl_get (by omega) (by rw [arr_len _ (by omega)]; omega))) ?_
      refine LQ_v rfl rfl rfl (V_move rfl rfl) ?_
      refine LQ_v rfl rfl rfl (V_add rfl rfl rfl (w_add _ _)) ?_
      refine LQ_v rfl rfl rfl (V_move rfl rfl) ?_
      refine LQ_v rfl rfl rfl (V_sub rfl rfl rfl (by first | exact Go.IntWalk.i64_in _ (by omega) | rfl)) ?_
      refine LQ_v rfl rfl rfl (V_indexArr rfl rfl rfl Tryd.underlying44 sz40h (by omega) (by omega) (by first | exact ix0 _ | exact ix1 _ _ | rfl)) ?_
      refine LQ_v rfl rfl rfl (V_load1 1 rfl rfl rfl Tryd.underlying40 rfl (wl_get (by omega) (by rw [arr_len _ (by omega)]; omega))) ?_
      refine LQ_v rfl rfl rfl (V_add rfl rfl rfl (w_add _ _)) ?_
      refine LQ_v rfl rfl rfl (V_move rfl rfl) ?_
      refine LQ_v rfl rfl rfl (V_add rfl rfl rfl (w_add _ _)) ?_
      refine LQ_v rfl rfl rfl (V_indexArr rfl rfl rfl Tryd.underlying44 sz40h (by omega) (by omega) (by first | exact ix0 _ | exact ix1 _ _ | rfl)) ?_
      refine LQ_nil ?_
      refine L_store1 1 rfl rfl rfl rfl rfl rfl rfl sz40h (by first | exact Nat.zero_lt_succ _ | (rw [wl_len, acc_len _ _ _ (by omega)]; omega) | (rw [wl_len, arr_len _ (by omega)]; omega) | (rw [hL_len _ (acc_len _ _ _ (by omega)) hbl]; omega)) rfl ?_
      refine L_nil ?_
      change J _ _ _ _
      refine J_region ?_
      refine L_v rfl rfl rfl (V_add rfl rfl rfl (by first | exact Go.IntWalk.i64_in _ (by omega) | rfl)) ?_
      refine L_v rfl rfl rfl (V_move rfl rfl) ?_
      refine L_nil ?_
      have e9 : (wl (arr bl t)).set ((t : Nat) : Int).toNat (.int .u32 (wi (nw (arr bl t) ((t : Int) - 16) + s0 (nw (arr bl t) ((t : Int) - 15)) + nw (arr bl t) ((t : Int) - 7) + s1 (nw (arr bl t) ((t : Int) - 2))))) = wl (arr bl (t + 1)) := by
        rw [Int.toNat_natCast, show (Value.int .u32 (wi (nw (arr bl t) ((t : Int) - 16) + s0 (nw (arr bl t) ((t : Int) - 15)) + nw (arr bl t) ((t : Int) - 7) + s1 (nw (arr bl t) ((t : Int) - 2))))) = wv (if t < 16 then wd bl t else nx (sch bl t) t) from by rw [if_neg (by omega), arr_get bl (j := t - 16) (by omega) (by omega), arr_get bl (j := t - 15) (by omega) (by omega), arr_get bl (j := t - 7) (by omega) (by omega), arr_get bl (j := t - 2) (by omega) (by omega)]; rfl, wl_set, arr_set bl (by omega)]
      exact ⟨t + 1, by omega, by omega, ⟨rfl, rfl, rfl, trivial⟩, (by rw [← e9]; exact List.Sublist.refl _), fun f hf => hf, rfl⟩
  ·
    first | (have h1 := h1; rw [decide_eq_true_eq] at h1) | (have h1 := h1; rw [decide_eq_false_iff_not] at h1) | skip
    obtain rfl : t = 64 := by omega
    refine J_exit ?_
    change J _ _ _ _
    refine J_seq ?_
    refine J_regionQ rfl (by kernel_rfl) ?_
    refine LQ_v rfl rfl rfl (V_move rfl rfl) ?_
    refine LQ_v rfl rfl rfl (V_nilCheck rfl rfl) ?_
    refine LQ_v rfl rfl rfl (V_fieldAddr rfl rfl Tryd.underlying48 rfl sz41h rfl) ?_
    refine LQ_v rfl rfl rfl (V_indexArr rfl rfl rfl Tryd.underlying41 sz40h (by omega) (by omega) (by first | exact ix0 _ | exact ix1 _ _ | rfl)) ?_
    refine LQ_v rfl rfl rfl (V_load1 0 rfl rfl rfl Tryd.underlying40 rfl (by first | rfl | exact wl_get (by omega) (by omega))) ?_
    refine LQ_v rfl rfl rfl (V_move rfl rfl) ?_
    refine LQ_v rfl rfl rfl (V_nilCheck rfl rfl) ?_
    refine LQ_v rfl rfl rfl (V_fieldAddr rfl rfl Tryd.underlying48 rfl sz41h rfl) ?_
    refine LQ_v rfl rfl rfl (V_indexArr rfl rfl rfl Tryd.underlying41 sz40h (by omega) (by omega) (by first | exact ix0 _ | exact ix1 _ _ | rfl)) ?_
    refine LQ_v rfl rfl rfl (V_load1 0 rfl rfl rfl Tryd.underlying40 rfl (by first | rfl | exact wl_get (by omega) (by omega))) ?_
    refine LQ_v rfl rfl rfl (V_move rfl rfl) ?_
    refine LQ_v rfl rfl rfl (V_nilCheck rfl rfl) ?_
    refine LQ_v rfl rfl rfl (V_fieldAddr rfl rfl Tryd.underlying48 rfl sz41h rfl) ?_
    refine LQ_v rfl rfl rfl (V_indexArr rfl rfl rfl Tryd.underlying41 sz40h (by omega) (by omega) (by first | exact ix0 _ | exact ix1 _ _ | rfl)) ?_
    refine LQ_v rfl rfl rfl (V_load1 0 rfl rfl rfl Tryd.underlying40 rfl (by first | rfl | exact wl_get (by omega) (by omega))) ?_
    refine LQ_v rfl rfl rfl (V_move rfl rfl) ?_
    refine LQ_v rfl rfl rfl (V_nilCheck rfl rfl) ?_
    refine LQ_v rfl rfl rfl (V_fieldAddr rfl rfl Tryd.underlying48 rfl sz41h rfl) ?_
    refine LQ_v rfl rfl rfl (V_indexArr rfl rfl rfl Tryd.underlying41 sz40h (by omega) (by omega) (by first | exact ix0 _ | exact ix1 _ _ | rfl)) ?_
    refine LQ_v rfl rfl rfl (V_load1 0 rfl rfl rfl Tryd.underlying40 rfl (by first | rfl | exact wl_get (by omega) (by omega))) ?_
    refine LQ_v rfl rfl rfl (V_move rfl rfl) ?_
    refine LQ_v rfl rfl rfl (V_nilCheck rfl rfl) ?_
    refine LQ_v rfl rfl rfl (V_fieldAddr rfl rfl Tryd.underlying48 rfl sz41h rfl) ?_
    refine LQ_v rfl rfl rfl (V_indexArr rfl rfl rfl Tryd.underlying41 sz40h (by omega) (by omega) (by first | exact ix0 _ | exact ix1 _ _ | rfl)) ?_
    refine LQ_v rfl rfl rfl (V_load1 0 rfl rfl rfl Tryd.underlying40 rfl (by first | rfl | exact wl_get (by omega) (by omega))) ?_
    refine LQ_v rfl rfl rfl (V_move rfl rfl) ?_
    refine LQ_v rfl rfl rfl (V_nilCheck rfl rfl) ?_
    refine LQ_v rfl rfl rfl (V_fieldAddr rfl rfl Tryd.underlying48 rfl sz41h rfl) ?_
    refine LQ_v rfl rfl rfl (V_indexArr rfl rfl rfl Tryd.underlying41 sz40h (by omega) (by omega) (by first | exact ix0 _ | exact ix1 _ _ | rfl)) ?_
    refine LQ_v rfl rfl rfl (V_load1 0 rfl rfl rfl Tryd.underlying40 rfl (by first | rfl | exact wl_get (by omega) (by omega))) ?_
    refine LQ_v rfl rfl rfl (V_move rfl rfl) ?_
    refine LQ_v rfl rfl rfl (V_nilCheck rfl rfl) ?_
    refine LQ_v rfl rfl rfl (V_fieldAddr rfl rfl Tryd.underlying48 rfl sz41h rfl) ?_
    refine LQ_v rfl rfl rfl (V_indexArr rfl rfl rfl Tryd.underlying41 sz40h (by omega) (by omega) (by first | exact ix0 _ | exact ix1 _ _ | rfl)) ?_
    refine LQ_v rfl rfl rfl (V_load1 0 rfl rfl rfl Tryd.underlying40 rfl (by first | rfl | exact wl_get (by omega) (by omega))) ?_
    refine LQ_v rfl rfl rfl (V_move rfl rfl) ?_
    refine LQ_v rfl rfl rfl (V_nilCheck rfl rfl) ?_
    refine LQ_v rfl rfl rfl (V_fieldAddr rfl rfl Tryd.underlying48 rfl sz41h rfl) ?_
    refine LQ_v rfl rfl rfl (V_indexArr rfl rfl rfl Tryd.underlying41 sz40h (by omega) (by omega) (by first | exact ix0 _ | exact ix1 _ _ | rfl)) ?_
    refine LQ_v rfl rfl rfl (V_load1 0 rfl rfl rfl Tryd.underlying40 rfl (by first | rfl | exact wl_get (by omega) (by omega))) ?_
    refine LQ_v rfl rfl rfl (V_assign rfl rfl) ?_
    refine LQ_v rfl rfl rfl (V_assign rfl rfl) ?_
    refine LQ_v rfl rfl rfl (V_assign rfl rfl) ?_
    refine LQ_v rfl rfl rfl (V_assign rfl rfl) ?_
    refine LQ_v rfl rfl rfl (V_assign rfl rfl) ?_
    refine LQ_v rfl rfl rfl (V_assign rfl rfl) ?_
    refine LQ_v rfl rfl rfl (V_assign rfl rfl) ?_
    refine LQ_v rfl rfl rfl (V_assign rfl rfl) ?_
    refine LQ_nil ?_
    change J _ _ _ _
    refine J_seq ?_
    refine J_seq ?_
    refine J_region ?_
    refine L_v rfl rfl rfl (V_loadW 1 rfl rfl rfl Tryd.underlying44 rfl (szd sz44h (by rw [wl_len, arr_len _ (by omega)]))) ?_
    refine L_v rfl rfl rfl (V_move rfl rfl) ?_
    refine L_nil ?_
    change J _ _ _ _
    refine J_block ?_
    refine J_loop (X := Nat) (fun t => { env := [(0, .pointer (some ⟨b, 0, none⟩)), (9, wv (rnd KT (arr bl 64) ws t).a), (10, wv (rnd KT (arr bl 64) ws t).b), (11, wv (rnd KT (arr bl 64) ws t).c), (12, wv (rnd KT (arr bl 64) ws t).d), (13, wv (rnd KT (arr bl 64) ws t).e), (14, wv (rnd KT (arr bl 64) ws t).f), (15, wv (rnd KT (arr bl 64) ws t).g), (16, wv (rnd KT (arr bl 64) ws t).h), (140, .agg (wl (arr bl 64)).toArray), (141, .int .i64 (t : Int))], mem := [(b, row 48 (hL ws.l bl n))] }) (fun t => t ≤ 64) (fun t => 64 - t) 0 (Nat.zero_le _) ⟨⟨rfl, rfl, rfl, rfl, rfl, rfl, rfl, rfl, rfl, rfl, rfl, trivial⟩, List.Sublist.cons_cons _ (List.nil_sublist _), fun f hf => hf, rfl⟩ ?_
    rintro t ht
    refine J_seq ?_
    refine J_region ?_
    refine L_v rfl rfl rfl (V_lss rfl rfl rfl (by first | exact decide_eq_true (by omega) | exact decide_eq_false (by omega) | rfl)) ?_
    refine L_nil ?_
    change J _ _ _ _
    refine J_seq ?_
    refine J_cond rfl (fun h2 => ?_) (fun h2 => ?_)
    ·
      first | (have h2 := h2; rw [decide_eq_true_eq] at h2) | (have h2 := h2; rw [decide_eq_false_iff_not] at h2) | skip
      refine J_skip ?_
      change J _ _ _ _
      refine J_seq ?_
      refine J_block ?_
      refine J_seq ?_
      refine J_region ?_
      refine L_v rfl rfl rfl (V_move rfl rfl) ?_
      refine L_v rfl rfl rfl (V_indexA rfl rfl rfl Tryd.underlying44 sz40h Tryd.underlying40 rfl (by omega) (by omega) (by rw [Nat.mul_one]; exact wl_get (by omega) (by rw [arr_len _ (by omega)]; omega))) ?_
      refine L_v rfl rfl rfl (V_assign rfl rfl) ?_
      refine L_v rfl rfl rfl (V_assign rfl rfl) ?_
      refine L_nil ?_
      change J _ _ _ _
      refine J_seq ?_
      refine J_region ?_
      refine L_v rfl rfl rfl (V_move rfl rfl) ?_
      refine L_callV rfl rfl rfl rfl rfl rfl tx27h (fun w _ => rotl_w _ 6 w (by decide) (by decide)) ?_
      refine L_v rfl rfl rfl (V_move rfl rfl) ?_
      refine L_callV rfl rfl rfl rfl rfl rfl tx27h (fun w _ => rotl_w _ 11 w (by decide) (by decide)) ?_
      refine L_v rfl rfl rfl (V_xor rfl rfl rfl (w_xor _ _)) ?_
      refine L_v rfl rfl rfl (V_move rfl rfl) ?_
      refine L_callV rfl rfl rfl rfl rfl rfl tx27h (fun w _ => rotl_w _ 25 w (by decide) (by decide)) ?_
      refine L_v rfl rfl rfl (V_xor rfl rfl rfl (w_xor _ _)) ?_
      refine L_v rfl rfl rfl (V_assign rfl rfl) ?_
      refine L_nil ?_
      change J _ _ _ _
      refine J_seq ?_
      refine J_region ?_
      refine L_v rfl rfl rfl (V_move rfl rfl) ?_
      refine L_v rfl rfl rfl (V_move rfl rfl) ?_
      refine L_v rfl rfl rfl (V_add rfl rfl rfl (w_add _ _)) ?_
      refine L_v rfl rfl rfl (V_move rfl rfl) ?_
      refine L_v rfl rfl rfl (V_move rfl rfl) ?_
      refine L_v rfl rfl rfl (V_move rfl rfl) ?_
      refine L_v rfl rfl rfl (V_xor rfl rfl rfl (w_xor _ _)) ?_
      refine L_v rfl rfl rfl (V_and rfl rfl rfl (w_and _ _)) ?_
      refine L_v rfl rfl rfl (V_move rfl rfl) ?_
      refine L_v rfl rfl rfl (V_xor rfl rfl rfl (w_xor _ _)) ?_
      refine L_v rfl rfl rfl (V_add rfl rfl rfl (w_add _ _)) ?_
      refine L_v rfl rfl rfl (V_move rfl rfl) ?_
      refine L_v rfl rfl rfl (V_indexArr rfl rfl rfl Tryd.underlying44 sz40h (by omega) (by omega) (by rw [Int.toNat_natCast, Nat.zero_add, Nat.mul_one])) ?_
      refine L_v rfl rfl rfl (V_load rfl rfl Tryd.underlying40 rfl (fun w hw => TabK.later hw (by intro hx; simp at hx; exact hbg hx.symm) hK t (by omega))) ?_
      refine L_v rfl rfl rfl (V_add rfl rfl rfl (w_add _ _)) ?_
      refine L_v rfl rfl rfl (V_move rfl rfl) ?_
      refine L_v rfl rfl rfl (V_add rfl rfl rfl (w_add _ _)) ?_
      refine L_v rfl rfl rfl (V_assign rfl rfl) ?_
      refine L_nil ?_
      change J _ _ _ _
      refine J_seq ?_
      refine J_region ?_
      refine L_v rfl rfl rfl (V_move rfl rfl) ?_
      refine L_callV rfl rfl rfl rfl rfl rfl tx27h (fun w _ => rotl_w _ 2 w (by decide) (by decide)) ?_
      refine L_v rfl rfl rfl (V_move rfl rfl) ?_
      refine L_callV rfl rfl rfl rfl rfl rfl tx27h (fun w _ => rotl_w _ 13 w (by decide) (by decide)) ?_
      refine L_v rfl rfl rfl (V_xor rfl rfl rfl (w_xor _ _)) ?_
      refine L_v rfl rfl rfl (V_move rfl rfl) ?_
      refine L_callV rfl rfl rfl rfl rfl rfl tx27h (fun w _ => rotl_w _ 22 w (by decide) (by decide)) ?_
      refine L_v rfl rfl rfl (V_xor rfl rfl rfl (w_xor _ _)) ?_
      refine L_v rfl rfl rfl (V_assign rfl rfl) ?_
      refine L_nil ?_
      change J _ _ _ _
      refine J_seq ?_
      refine J_region ?_
      refine L_v rfl rfl rfl (V_move rfl rfl) ?_
      refine L_v rfl rfl rfl (V_move rfl rfl) ?_
      refine L_v rfl rfl rfl (V_move rfl rfl) ?_
      refine L_v rfl rfl rfl (V_and rfl rfl rfl (w_and _ _)) ?_
      refine L_v rfl rfl rfl (V_move rfl rfl) ?_
      refine L_v rfl rfl rfl (V_move rfl rfl) ?_
      refine L_v rfl rfl rfl (V_move rfl rfl) ?_
      refine L_v rfl rfl rfl (V_or rfl rfl rfl (w_or _ _)) ?_
      refine L_v rfl rfl rfl (V_and rfl rfl rfl (w_and _ _)) ?_
      refine L_v rfl rfl rfl (V_or rfl rfl rfl (w_or _ _)) ?_
      refine L_v rfl rfl rfl (V_add rfl rfl rfl (w_add _ _)) ?_
      refine L_v rfl rfl rfl (V_assign rfl rfl) ?_
      refine L_nil ?_
      change J _ _ _ _
      refine J_region ?_
      refine L_v rfl rfl rfl (V_move rfl rfl) ?_
      refine L_v rfl rfl rfl (V_move rfl rfl) ?_
      refine L_v rfl rfl rfl (V_add rfl rfl rfl (w_add _ _)) ?_
      refine L_v rfl rfl rfl (V_move rfl rfl) ?_
      refine L_v rfl rfl rfl (V_move rfl rfl) ?_
      refine L_v rfl rfl rfl (V_move rfl rfl) ?_
      refine L_v rfl rfl rfl (V_move rfl rfl) ?_
      refine L_v rfl rfl rfl (V_move rfl rfl) ?_
      refine L_v rfl rfl rfl (V_add rfl rfl rfl (w_add _ _)) ?_
      refine L_v rfl rfl rfl (V_move rfl rfl) ?_
      refine L_v rfl rfl rfl (V_move rfl rfl) ?_
      refine L_v rfl rfl rfl (V_move rfl rfl) ?_
      refine L_v rfl rfl rfl (V_assign rfl rfl) ?_
      refine L_v rfl rfl rfl (V_assign rfl rfl) ?_
      refine L_v rfl rfl rfl (V_assign rfl rfl) ?_
      refine L_v rfl rfl rfl (V_assign rfl rfl) ?_
      refine L_v rfl rfl rfl (V_assign rfl rfl) ?_
      refine L_v rfl rfl rfl (V_assign rfl rfl) ?_
      refine L_v rfl rfl rfl (V_assign rfl rfl) ?_
      refine L_v rfl rfl rfl (V_assign rfl rfl) ?_
      refine L_nil ?_
      change J _ _ _ _
      refine J_region ?_
      refine L_v rfl rfl rfl (V_add rfl rfl rfl (by first | exact Go.IntWalk.i64_in _ (by omega) | rfl)) ?_
      refine L_v rfl rfl rfl (V_move rfl rfl) ?_
      refine L_nil ?_
      exact ⟨t + 1, by omega, by omega, ⟨rfl, rfl, rfl, rfl, rfl, rfl, rfl, rfl, rfl, rfl, rfl, trivial⟩, List.Sublist.refl _, fun f hf => hf, rfl⟩
    ·
      first | (have h2 := h2; rw [decide_eq_true_eq] at h2) | (have h2 := h2; rw [decide_eq_false_iff_not] at h2) | skip
      obtain rfl : t = 64 := by omega
      have hblk : blk KT ws bl = ws.add (rnd KT (arr bl 64) ws 64) := by unfold blk; rw [arr_end]
      obtain ⟨R, hR⟩ : ∃ R, rnd KT (arr bl 64) ws 64 = R := ⟨_, rfl⟩
      rw [hR]
      refine J_exit ?_
      change J _ _ _ _
      refine J_seq ?_
      refine J_region ?_
      refine L_v rfl rfl rfl (V_move rfl rfl) ?_
      refine L_v rfl rfl rfl (V_move rfl rfl) ?_
      refine L_v rfl rfl rfl (V_move rfl rfl) ?_
      refine L_v rfl rfl rfl (V_move rfl rfl) ?_
      refine L_v rfl rfl rfl (V_move rfl rfl) ?_
      refine L_v rfl rfl rfl (V_move rfl rfl) ?_
      refine L_v rfl rfl rfl (V_move rfl rfl) ?_
      refine L_v rfl rfl rfl (V_move rfl rfl) ?_
      refine L_v rfl rfl rfl (V_build (vs := [(0, wv R.a), (1, wv R.b), (2, wv R.c), (3, wv R.d), (4, wv R.e), (5, wv R.f), (6, wv R.g), (7, wv R.h)]) rfl rfl (bd8 _ _ _ _ _ _ _ _)) ?_
      refine L_v rfl rfl rfl (V_move rfl rfl) ?_
      refine L_nil ?_
      change J _ _ _ _
      refine J_block ?_
      refine J_loop (X := Nat) (fun i => { env := [(0, .pointer (some ⟨b, 0, none⟩)), (210, .agg (wl R.l).toArray), (211, .int .i64 (i : Int))], mem := [(b, row 48 (hL (acc ws R i) bl n))] }) (fun i => i ≤ 8) (fun i => 8 - i) 0 (Nat.zero_le _) ⟨⟨rfl, rfl, rfl, trivial⟩, (by subst hR; exact List.Sublist.refl _), fun f hf => hf, rfl⟩ ?_
      rintro i hi
      refine J_seq ?_
      refine J_region ?_
      refine L_v rfl rfl rfl (V_lss rfl rfl rfl (by first | exact decide_eq_true (by omega) | exact decide_eq_false (by omega) | rfl)) ?_
      refine L_nil ?_
      change J _ _ _ _
      refine J_seq ?_
      refine J_cond rfl (fun h3 => ?_) (fun h3 => ?_)
      ·
        first | (have h3 := h3; rw [decide_eq_true_eq] at h3) | (have h3 := h3; rw [decide_eq_false_iff_not] at h3) | skip
        refine J_skip ?_
        change J _ _ _ _
        refine J_seq ?_
        refine J_block ?_
        refine J_seq ?_
        refine J_region ?_
        refine L_v rfl rfl rfl (V_move rfl rfl) ?_
        refine L_v rfl rfl rfl (V_indexA rfl rfl rfl Tryd.underlying41 sz40h Tryd.underlying40 rfl (by omega) (by omega) (by rw [Nat.mul_one]; exact wl_get (by omega) (by show _ < ((8 : Nat) : Int); omega))) ?_
        refine L_v rfl rfl rfl (V_assign rfl rfl) ?_
        refine L_v rfl rfl rfl (V_assign rfl rfl) ?_
        refine L_nil ?_
        change J _ _ _ _
        refine J_regionT 11 rfl (by kernel_rfl) ?_
        refine LQ_v rfl rfl rfl (V_move rfl rfl) ?_
        refine LQ_v rfl rfl rfl (V_move rfl rfl) ?_
        refine LQ_v rfl rfl rfl (V_nilCheck rfl rfl) ?_
        refine LQ_v rfl rfl rfl (V_fieldAddr rfl rfl Tryd.underlying48 rfl sz41h rfl) ?_
        refine LQ_v rfl rfl rfl (V_indexArr (off' := i) rfl rfl rfl Tryd.underlying41 sz40h (by omega) (by omega) (show 0 + 0 + ((i : Nat) : Int).toNat * 1 = i by rw [Int.toNat_natCast]; omega)) ?_
        refine LQ_v rfl rfl rfl (V_load1 0 rfl rfl rfl Tryd.underlying40 rfl (hL_word (by rw [acc_len _ _ _ (by omega)]; omega))) ?_
        refine LQ_v rfl rfl rfl (V_move rfl rfl) ?_
        refine LQ_v rfl rfl rfl (V_add rfl rfl rfl (w_add _ _)) ?_
        refine LQ_v rfl rfl rfl (V_nilCheck rfl rfl) ?_
        refine LQ_v rfl rfl rfl (V_fieldAddr rfl rfl Tryd.underlying48 rfl sz41h rfl) ?_
        refine LQ_v rfl rfl rfl (V_indexArr (off' := i) rfl rfl rfl Tryd.underlying41 sz40h (by omega) (by omega) (show 0 + 0 + ((i : Nat) : Int).toNat * 1 = i by rw [Int.toNat_natCast]; omega)) ?_
        refine LQ_nil ?_
        refine L_store1 0 rfl rfl rfl rfl rfl rfl rfl sz40h (by first | exact Nat.zero_lt_succ _ | (rw [wl_len, acc_len _ _ _ (by omega)]; omega) | (rw [wl_len, arr_len _ (by omega)]; omega) | (rw [hL_len _ (acc_len _ _ _ (by omega)) hbl]; omega)) rfl ?_
        refine L_nil ?_
        change J _ _ _ _
        refine J_region ?_
        refine L_v rfl rfl rfl (V_add rfl rfl rfl (by first | exact Go.IntWalk.i64_in _ (by omega) | rfl)) ?_
        refine L_v rfl rfl rfl (V_move rfl rfl) ?_
        refine L_nil ?_
        have e9 := acc_set ws R i (by omega)
        exact ⟨i + 1, by omega, by omega, ⟨rfl, rfl, rfl, trivial⟩, (by rw [← e9, ← hL_setw (by rw [acc_len _ _ _ (by omega)]; omega)]; exact List.Sublist.refl _), fun f hf => hf, rfl⟩
      ·
        first | (have h3 := h3; rw [decide_eq_true_eq] at h3) | (have h3 := h3; rw [decide_eq_false_iff_not] at h3) | skip
        refine J_exit ?_
        change Kret _ _ _ Exit.normal _
        refine Kret_normal ?_
        refine ret0 rfl rfl  ?_
        obtain rfl : i = 8 := by omega
        exact fun w' h => ⟨rfl, h.fr, by rw [hblk, hR]; exact h.at (i := 0) rfl⟩

end Go.Proofs.YtejhcdjfcopphaaDoor
