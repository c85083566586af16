/- What the reference of layer 2 makes of a block. -/
import Derived.Test.YtejhcdjfcopphaaDoorSha
set_option linter.unusedVariables false
set_option linter.unusedSimpArgs false
set_option maxRecDepth 100000
namespace Go.Proofs.YtejhcdjfcopphaaDoor
open Go.Sx
theorem bdB (w : World) : (Instr.build 41 [(0, .int .u32 1779033703), (1, .int .u32 3144134277), (2, .int .u32 1013904242), (3, .int .u32 2773480762), (4, .int .u32 1359893119), (5, .int .u32 2600822924), (6, .int .u32 528734635), (7, .int .u32 1541459225)].toArray).run Tryd.prog w = .ok (.agg (wl R0.l).toArray) w := by kernel_rfl
theorem sz5i : (Tryd.prog.info? 5).map (·.size) = some 1 := by kernel_rfl
theorem sz40i : (Tryd.prog.info? 40).map (·.size) = some 1 := by kernel_rfl
theorem sz41i : (Tryd.prog.info? 41).map (·.size) = some 8 := by kernel_rfl
theorem tx24i : Txt Tryd.prog 24 := txt_of Tryd.func24 rfl (by kernel_rfl)
theorem z41i : (Tryd.prog.info? 41).bind (·.zero) = some (.agg (wl (List.replicate 8 0)).toArray) := by kernel_rfl
theorem z44i : (Tryd.prog.info? 44).bind (·.zero) = some (.agg (wl (List.replicate 64 0)).toArray) := by kernel_rfl

theorem begin_w (w : World) :
    Calls Tryd.prog 20 #[] w fun e w' => e = .returned (.agg (wl R0.l).toArray) ∧ Fr [] w w' := by
  refine calls_of (args := []) ([]) ([]) ([]) Tryd.func20 rfl rfl (okW0 _ _ _ _) ?_
  refine J_seq ?_
  refine J_region ?_
  refine L_alloc rfl rfl rfl rfl z41i (fun b0 => ?_)
  refine L_nil ?_
  change J _ _ _ _
  refine J_seq ?_
  refine J_region ?_
  refine L_v rfl rfl rfl (V_build (vs := [(0, .int .u32 1779033703), (1, .int .u32 3144134277), (2, .int .u32 1013904242), (3, .int .u32 2773480762), (4, .int .u32 1359893119), (5, .int .u32 2600822924), (6, .int .u32 528734635), (7, .int .u32 1541459225)]) rfl rfl bdB) ?_
  refine L_storeW 0 rfl rfl rfl rfl rfl rfl (szd sz41i (by first | (rw [wl_len]; rfl) | (rw [wl_len, acc_len _ _ _ (by omega)]))) (by first | exact wl_one _ | exact hL_one _ _ _ | exact dg_one _) (by first | (rw [wl_len]; rfl) | (rw [wl_len, acc_len _ _ _ (by omega)])) ?_
  refine L_nil ?_
  change J _ _ _ _
  refine J_ret ?_
  change Kret _ _ _ Exit.ret _
  refine ret1 rfl rfl (RV_c 0 rfl rfl Tryd.underlying41 rfl (szd sz41i (by first | (rw [wl_len]; rfl) | (rw [wl_len, acc_len _ _ _ (by omega)])))) ?_
  exact fun w' h => ⟨rfl, h.fr⟩

theorem hnew_w (w : World) :
    Calls Tryd.prog 14 #[] w fun e w' => ∃ b, e = .returned (.pointer (some ⟨b, 0, none⟩)) ∧ Fr [] w w' ∧ w.heap.size ≤ b ∧ w'.heap[b]? = some (row 48 (hL R0.l (List.replicate 64 0) 0)) := by
  refine calls_of (args := []) ([]) ([]) ([]) Tryd.func14 rfl rfl (okW0 _ _ _ _) ?_
  refine J_seq ?_
  refine J_region ?_
  refine L_v rfl rfl rfl (V_assign rfl rfl) ?_
  refine L_nil ?_
  change J _ _ _ _
  refine J_seq ?_
  refine J_region ?_
  refine L_v rfl rfl rfl (V_build (vs := [(0, .int .u32 1779033703), (1, .int .u32 3144134277), (2, .int .u32 1013904242), (3, .int .u32 2773480762), (4, .int .u32 1359893119), (5, .int .u32 2600822924), (6, .int .u32 528734635), (7, .int .u32 1541459225)]) rfl rfl bdB) ?_
  refine L_v rfl rfl rfl (V_build (vs := [(0, .agg (wl R0.l).toArray)]) rfl rfl (bdH R0)) ?_
  refine L_box rfl rfl rfl rfl rfl (fun b0 => ?_)
  refine L_v rfl rfl rfl (V_assign rfl rfl) ?_
  refine L_nil ?_
  change J _ _ _ _
  refine J_ret ?_
  change Kret _ _ _ Exit.ret _
  refine ret1 rfl rfl (RV_t rfl) ?_
  exact fun w' h => ⟨b0, rfl, h.fr, (by simpa using h.may b0 (List.mem_singleton.2 rfl)), h.at (i := 0) rfl⟩

theorem block_w (ws : R8) (a : Option Addr) (n c : Nat) (bl : List Int) (w : World) (hu : SlB w (.slice a n c) bl) (hbl : bl.length = 64) (hby : Byt bl) (hK : TabK KT 0 w) :
    Calls Tryd.prog 21 #[.agg (wl ws.l).toArray, .slice a n c] w fun e w' => e = .returned (.agg (wl (blk KT ws bl).l).toArray) ∧ Fr [] w w' := by
  have hsz := hu.size
  refine calls_of (args := [.agg (wl ws.l).toArray, .slice a n c]) ([]) ([]) ([]) Tryd.func21 rfl rfl (okW0 _ _ _ _) ?_
  refine J_seq ?_
  refine J_region ?_
  refine L_box rfl rfl rfl rfl rfl (fun b0 => ?_)
  refine L_alloc rfl rfl rfl rfl z41i (fun b1 => ?_)
  refine L_nil ?_
  change J _ _ _ _
  refine J_seq ?_
  refine J_region ?_
  refine L_alloc rfl rfl rfl rfl z44i (fun b2 => ?_)
  refine L_nil ?_
  change J _ _ _ _
  refine J_seq ?_
  refine J_seq ?_
  refine J_region ?_
  refine L_v rfl rfl rfl (V_assign rfl rfl) ?_
  refine L_nil ?_
  change J _ _ _ _
  refine J_block ?_
  refine J_loop (X := Nat) (fun t => { env := [(1, .slice a n c), (2, .pointer (some ⟨b0, 0, none⟩)), (4, .pointer (some ⟨b1, 0, none⟩)), (5, .pointer (some ⟨b2, 0, none⟩)), (6, .int .i64 (t : Int))], mem := [(b0, row 41 (wl ws.l)), (b1, row 41 (wl (List.replicate 8 0))), (b2, row 44 (wl (arr bl t)))] }) (fun t => t ≤ 16) (fun t => 16 - t) 0 (Nat.zero_le _) ⟨⟨rfl, rfl, rfl, rfl, rfl, trivial⟩, List.Sublist.refl _, fun f hf => hf, rfl⟩ ?_
  rintro t ht
  refine J_seq ?_
  refine J_seq ?_
  refine J_region ?_
  refine L_v rfl rfl rfl (V_move rfl rfl) ?_
  refine L_v rfl rfl rfl (V_lss rfl rfl rfl (by first | exact decide_eq_true (by omega) | exact decide_eq_false (by omega) | rfl)) ?_
  refine L_nil ?_
  change J _ _ _ _
  refine J_cond rfl (fun h1 => ?_) (fun h1 => ?_)
  ·
    first | (have h1 := h1; rw [decide_eq_true_eq] at h1) | (have h1 := h1; rw [decide_eq_false_iff_not] at h1) | skip
    have q0 := byt_getD hby (4 * t)
    have q1 := byt_getD hby (4 * t + 1)
    have q2 := byt_getD hby (4 * t + 2)
    have q3 := byt_getD hby (4 * t + 3)
    have g0 : bl.getD (4 * (t : Int)).toNat 0 = bl.getD (4 * t) 0 := by congr 1 <;> omega
    have g1 : bl.getD (4 * (t : Int) + 1).toNat 0 = bl.getD (4 * t + 1) 0 := by congr 1 <;> omega
    have g2 : bl.getD (4 * (t : Int) + 2).toNat 0 = bl.getD (4 * t + 2) 0 := by congr 1 <;> omega
    have g3 : bl.getD (4 * (t : Int) + 3).toNat 0 = bl.getD (4 * t + 3) 0 := by congr 1 <;> omega
    refine J_skip ?_
    change J _ _ _ _
    refine J_seq ?_
    refine J_block ?_
    refine J_regionT 35 rfl (by kernel_rfl) ?_
    refine LQ_v rfl rfl rfl (V_move rfl rfl) ?_
    refine LQ_v rfl rfl rfl (V_move rfl rfl) ?_
    refine LQ_v rfl rfl rfl (V_move rfl rfl) ?_
    refine LQ_v rfl rfl rfl (V_mul rfl rfl rfl (by first | exact Go.IntWalk.i64_in _ (by omega) | rfl)) ?_
    refine LQ_v rfl rfl rfl (V_indexB rfl rfl rfl Tryd.underlying22 sz5i (fun w hw => SlB.later hw rfl hu) (by omega) (by omega)) ?_
    refine LQ_v rfl rfl rfl (V_loadB rfl rfl Tryd.underlying5 rfl (fun w hw => SlB.later hw rfl hu) (by omega) (by first | exact g0 | exact g1 | exact g2 | exact g3)) ?_
    refine LQ_v rfl rfl rfl (V_conv rfl rfl Tryd.underlying5 Tryd.underlying40 (Go.IntWalk.u32_in _ (by omega))) ?_
    refine LQ_v rfl rfl rfl (V_shl rfl rfl rfl (by decide) (shl24 q0)) ?_
    refine LQ_v rfl rfl rfl (V_move rfl rfl) ?_
    refine LQ_v rfl rfl rfl (V_move rfl rfl) ?_
    refine LQ_v rfl rfl rfl (V_mul rfl rfl rfl (by first | exact Go.IntWalk.i64_in _ (by omega) | rfl)) ?_
    refine LQ_v rfl rfl rfl (V_add rfl rfl rfl (by first | exact Go.IntWalk.i64_in _ (by omega) | rfl)) ?_
    refine LQ_v rfl rfl rfl (V_indexB rfl rfl rfl Tryd.underlying22 sz5i (fun w hw => SlB.later hw rfl hu) (by omega) (by omega)) ?_
    refine LQ_v rfl rfl rfl (V_loadB rfl rfl Tryd.underlying5 rfl (fun w hw => SlB.later hw rfl hu) (by omega) (by first | exact g0 | exact g1 | exact g2 | exact g3)) ?_
    refine LQ_v rfl rfl rfl (V_conv rfl rfl Tryd.underlying5 Tryd.underlying40 (Go.IntWalk.u32_in _ (by omega))) ?_
    refine LQ_v rfl rfl rfl (V_shl rfl rfl rfl (by decide) (shl16 q1)) ?_
    refine LQ_v rfl rfl rfl (V_add rfl rfl rfl (Go.IntWalk.u32_in _ (by omega))) ?_
    refine LQ_v rfl rfl rfl (V_move rfl rfl) ?_
    refine LQ_v rfl rfl rfl (V_move rfl rfl) ?_
    refine LQ_v rfl rfl rfl (V_mul rfl rfl rfl (by first | exact Go.IntWalk.i64_in _ (by omega) | rfl)) ?_
    refine LQ_v rfl rfl rfl (V_add rfl rfl rfl (by first | exact Go.IntWalk.i64_in _ (by omega) | rfl)) ?_
    refine LQ_v rfl rfl rfl (V_indexB rfl rfl rfl Tryd.underlying22 sz5i (fun w hw => SlB.later hw rfl hu) (by omega) (by omega)) ?_
    refine LQ_v rfl rfl rfl (V_loadB rfl rfl Tryd.underlying5 rfl (fun w hw => SlB.later hw rfl hu) (by omega) (by first | exact g0 | exact g1 | exact g2 | exact g3)) ?_
    refine LQ_v rfl rfl rfl (V_conv rfl rfl Tryd.underlying5 Tryd.underlying40 (Go.IntWalk.u32_in _ (by omega))) ?_
    refine LQ_v rfl rfl rfl (V_shl rfl rfl rfl (by decide) (shl8 q2)) ?_
    refine LQ_v rfl rfl rfl (V_add rfl rfl rfl (Go.IntWalk.u32_in _ (by omega))) ?_
    refine LQ_v rfl rfl rfl (V_move rfl rfl) ?_
    refine LQ_v rfl rfl rfl (V_move rfl rfl) ?_
    refine LQ_v rfl rfl rfl (V_mul rfl rfl rfl (by first | exact Go.IntWalk.i64_in _ (by omega) | rfl)) ?_
    refine LQ_v rfl rfl rfl (V_add rfl rfl rfl (by first | exact Go.IntWalk.i64_in _ (by omega) | rfl)) ?_
    refine LQ_v rfl rfl rfl (V_indexB rfl rfl rfl Tryd.underlying22 sz5i (fun w hw => SlB.later hw rfl hu) (by omega) (by omega)) ?_
    refine LQ_v rfl rfl rfl (V_loadB rfl rfl Tryd.underlying5 rfl (fun w hw => SlB.later hw rfl hu) (by omega) (by first | exact g0 | exact g1 | exact g2 | exact g3)) ?_
    refine LQ_v rfl rfl rfl (V_conv rfl rfl Tryd.underlying5 Tryd.underlying40 (Go.IntWalk.u32_in _ (by omega))) ?_
    refine LQ_v rfl rfl rfl (V_add rfl rfl rfl (Go.IntWalk.u32_in _ (by omega))) ?_
    refine LQ_v rfl rfl rfl (V_indexArr rfl rfl rfl Tryd.underlying44 sz40i (by omega) (by omega) (by first | exact ix0 _ | exact ix1 _ _ | rfl)) ?_
    refine LQ_nil ?_
    refine L_store1 2 rfl rfl rfl rfl rfl rfl rfl sz40i (by first | exact Nat.zero_lt_succ _ | (rw [wl_len, acc_len _ _ _ (by omega)]; omega) | (rw [wl_len, arr_len _ (by omega)]; omega) | (rw [hL_len _ (acc_len _ _ _ (by omega)) hbl]; omega)) rfl ?_
    refine L_nil ?_
    change J _ _ _ _
    refine J_region ?_
    refine L_v rfl rfl rfl (V_move rfl rfl) ?_
    refine L_v rfl rfl rfl (V_add rfl rfl rfl (by first | exact Go.IntWalk.i64_in _ (by omega) | rfl)) ?_
    refine L_v rfl rfl rfl (V_assign rfl rfl) ?_
    refine L_nil ?_
    have e9 : (wl (arr bl t)).set ((t : Nat) : Int).toNat (.int .u32 (bl.getD (4 * t) 0 * 16777216 + bl.getD (4 * t + 1) 0 * 65536 + bl.getD (4 * t + 2) 0 * 256 + bl.getD (4 * t + 3) 0)) = wl (arr bl (t + 1)) := by
      rw [Int.toNat_natCast, show (Value.int .u32 (bl.getD (4 * t) 0 * 16777216 + bl.getD (4 * t + 1) 0 * 65536 + bl.getD (4 * t + 2) 0 * 256 + bl.getD (4 * t + 3) 0)) = wv (if t < 16 then wd bl t else nx (sch bl t) t) from by rw [if_pos (by omega), wi_wd q0 q1 q2 q3], wl_set, arr_set bl (by omega)]
    exact ⟨t + 1, by omega, by omega, ⟨rfl, rfl, rfl, rfl, rfl, trivial⟩, (by rw [← e9]; exact List.Sublist.refl _), fun f hf => hf, rfl⟩
  ·
    first | (have h1 := h1; rw [decide_eq_true_eq] at h1) | (have h1 := h1; rw [decide_eq_false_iff_not] at h1) | skip
    obtain rfl : t = 16 := by omega
    refine J_exit ?_
    change J _ _ _ _
    refine J_seq ?_
    refine J_seq ?_
    refine J_region ?_
    refine L_v rfl rfl rfl (V_assign rfl rfl) ?_
    refine L_nil ?_
    change J _ _ _ _
    refine J_block ?_
    refine J_loop (X := Nat) (fun t => { env := [(2, .pointer (some ⟨b0, 0, none⟩)), (4, .pointer (some ⟨b1, 0, none⟩)), (5, .pointer (some ⟨b2, 0, none⟩)), (7, .int .i64 (t : Int))], mem := [(b0, row 41 (wl ws.l)), (b1, row 41 (wl (List.replicate 8 0))), (b2, row 44 (wl (arr bl t)))] }) (fun t => 16 ≤ t ∧ t ≤ 64) (fun t => 64 - t) 16 ⟨Nat.le_refl _, by decide⟩ ⟨⟨rfl, rfl, rfl, rfl, trivial⟩, List.Sublist.refl _, fun f hf => hf, rfl⟩ ?_
    rintro t ⟨ht1, ht⟩
    refine J_seq ?_
    refine J_seq ?_
    refine J_region ?_
    refine L_v rfl rfl rfl (V_move rfl rfl) ?_
    refine L_v rfl rfl rfl (V_lss rfl rfl rfl (by first | exact decide_eq_true (by omega) | exact decide_eq_false (by omega) | rfl)) ?_
    refine L_nil ?_
    change J _ _ _ _
    refine J_cond rfl (fun h2 => ?_) (fun h2 => ?_)
    ·
      first | (have h2 := h2; rw [decide_eq_true_eq] at h2) | (have h2 := h2; rw [decide_eq_false_iff_not] at h2) | skip
      refine J_skip ?_
      change J _ _ _ _
      refine J_seq ?_
      refine J_block ?_
      refine J_seq ?_
      refine J_regionQ rfl (by kernel_rfl) ?_
      refine LQ_v rfl rfl rfl (V_move rfl rfl) ?_
      refine LQ_v rfl rfl rfl (V_sub rfl rfl rfl (by first | exact Go.IntWalk.i64_in _ (by omega) | rfl)) ?_
      refine LQ_v rfl rfl rfl (V_indexArr rfl rfl rfl Tryd.underlying44 sz40i (by omega) (by omega) (by first | exact ix0 _ | exact ix1 _ _ | rfl)) ?_
      refine LQ_v rfl rfl rfl (V_load1 2 rfl rfl rfl Tryd.underlying40 rfl (wl_get (by omega) (by rw [arr_len _ (by omega)]; omega))) ?_
      refine LQ_callV rfl rfl rfl rfl rfl rfl tx24i (fun w _ => turned_w _ 7 w (by decide) (by decide)) ?_
      refine LQ_v rfl rfl rfl (V_move rfl rfl) ?_
      refine LQ_v rfl rfl rfl (V_sub rfl rfl rfl (by first | exact Go.IntWalk.i64_in _ (by omega) | rfl)) ?_
      refine LQ_v rfl rfl rfl (V_indexArr rfl rfl rfl Tryd.underlying44 sz40i (by omega) (by omega) (by first | exact ix0 _ | exact ix1 _ _ | rfl)) ?_
      refine LQ_v rfl rfl rfl (V_load1 2 rfl rfl rfl Tryd.underlying40 rfl (wl_get (by omega) (by rw [arr_len _ (by omega)]; omega))) ?_
      refine LQ_callV rfl rfl rfl rfl rfl rfl tx24i (fun w _ => turned_w _ 18 w (by decide) (by decide)) ?_
      refine LQ_v rfl rfl rfl (V_xor rfl rfl rfl (w_xor _ _)) ?_
      refine LQ_v rfl rfl rfl (V_move rfl rfl) ?_
      refine LQ_v rfl rfl rfl (V_sub rfl rfl rfl (by first | exact Go.IntWalk.i64_in _ (by omega) | rfl)) ?_
      refine LQ_v rfl rfl rfl (V_indexArr rfl rfl rfl Tryd.underlying44 sz40i (by omega) (by omega) (by first | exact ix0 _ | exact ix1 _ _ | rfl)) ?_
      refine LQ_v rfl rfl rfl (V_load1 2 rfl rfl rfl Tryd.underlying40 rfl (wl_get (by omega) (by rw [arr_len _ (by omega)]; omega))) ?_
      refine LQ_v rfl rfl rfl (V_shr rfl rfl rfl (by decide) (w_shr _ 3 (by decide))) ?_
      refine LQ_v rfl rfl rfl (V_xor rfl rfl rfl (w_xor _ _)) ?_
      refine LQ_v rfl rfl rfl (V_assign rfl rfl) ?_
      refine LQ_nil ?_
      change J _ _ _ _
      refine J_seq ?_
      refine J_regionQ rfl (by kernel_rfl) ?_
      refine LQ_v rfl rfl rfl (V_move rfl rfl) ?_
      refine LQ_v rfl rfl rfl (V_sub rfl rfl rfl (by first | exact Go.IntWalk.i64_in _ (by omega) | rfl)) ?_
      refine LQ_v rfl rfl rfl (V_indexArr rfl rfl rfl Tryd.underlying44 sz40i (by omega) (by omega) (by first | exact ix0 _ | exact ix1 _ _ | rfl)) ?_
      refine LQ_v rfl rfl rfl (V_load1 2 rfl rfl rfl Tryd.underlying40 rfl (wl_get (by omega) (by rw [arr_len _ (by omega)]; omega))) ?_
      refine LQ_callV rfl rfl rfl rfl rfl rfl tx24i (fun w _ => turned_w _ 17 w (by decide) (by decide)) ?_
      refine LQ_v rfl rfl rfl (V_move rfl rfl) ?_
      refine LQ_v rfl rfl rfl (V_sub rfl rfl rfl (by first | exact Go.IntWalk.i64_in _ (by omega) | rfl)) ?_
      refine LQ_v rfl rfl rfl (V_indexArr rfl rfl rfl Tryd.underlying44 sz40i (by omega) (by omega) (by first | exact ix0 _ | exact ix1 _ _ | rfl)) ?_
      refine LQ_v rfl rfl rfl (V_load1 2 rfl rfl rfl Tryd.underlying40 rfl (wl_get (by omega) (by rw [arr_len _ (by omega)]; omega))) ?_
      refine LQ_callV rfl rfl rfl rfl rfl rfl tx24i (fun w _ => turned_w _ 19 w (by decide) (by decide)) ?_
      refine LQ_v rfl rfl rfl (V_xor rfl rfl rfl (w_xor _ _)) ?_
      refine LQ_v rfl rfl rfl (V_move rfl rfl) ?_
      refine LQ_v rfl rfl rfl (V_sub rfl rfl rfl (by first | exact Go.IntWalk.i64_in _ (by omega) | rfl)) ?_
      refine LQ_v rfl rfl rfl (V_indexArr rfl rfl rfl Tryd.underlying44 sz40i (by omega) (by omega) (by first | exact ix0 _ | exact ix1 _ _ | rfl)) ?_
      refine LQ_v rfl rfl rfl (V_load1 2 rfl rfl rfl Tryd.underlying40 rfl (wl_get (by omega) (by rw [arr_len _ (by omega)]; omega))) ?_
      refine LQ_v rfl rfl rfl (V_shr rfl rfl rfl (by decide) (w_shr _ 10 (by decide))) ?_
      refine LQ_v rfl rfl rfl (V_xor rfl rfl rfl (w_xor _ _)) ?_
      refine LQ_v rfl rfl rfl (V_assign rfl rfl) ?_
      refine LQ_nil ?_
      change J _ _ _ _
      refine J_regionT 15 rfl (by kernel_rfl) ?_
      refine LQ_v rfl rfl rfl (V_move rfl rfl) ?_
      refine LQ_v rfl rfl rfl (V_move rfl rfl) ?_
      refine LQ_v rfl rfl rfl (V_move rfl rfl) ?_
      refine LQ_v rfl rfl rfl (V_sub rfl rfl rfl (by first | exact Go.IntWalk.i64_in _ (by omega) | rfl)) ?_
      refine LQ_v rfl rfl rfl (V_indexArr rfl rfl rfl Tryd.underlying44 sz40i (by omega) (by omega) (by first | exact ix0 _ | exact ix1 _ _ | rfl)) ?_
      refine LQ_v rfl rfl rfl (V_load1 2 rfl rfl rfl Tryd.underlying40 rfl (wl_get (by omega) (by rw [arr_len _ (by omega)]; omega))) ?_
      refine LQ_v rfl rfl rfl (V_add rfl rfl rfl (w_add _ _)) ?_
      refine LQ_v rfl rfl rfl (V_move rfl rfl) ?_
      refine LQ_v rfl rfl rfl (V_add rfl rfl rfl (w_add _ _)) ?_
      refine LQ_v rfl rfl rfl (V_move rfl rfl) ?_
      refine LQ_v rfl rfl rfl (V_sub rfl rfl rfl (by first | exact Go.IntWalk.i64_in _ (by omega) | rfl)) ?_
      refine LQ_v rfl rfl rfl (V_indexArr rfl rfl rfl Tryd.underlying44 sz40i (by omega) (by omega) (by first | exact ix0 _ | exact ix1 _ _ | rfl)) ?_
      refine LQ_v rfl rfl rfl (V_load1 2 rfl rfl rfl Tryd.underlying40 rfl (wl_get (by omega) (by rw [arr_len _ (by omega)]; omega))) ?_
      refine LQ_v rfl rfl rfl (V_add rfl rfl rfl (w_add _ _)) ?_
      refine LQ_v rfl rfl rfl (V_indexArr rfl rfl rfl Tryd.underlying44 sz40i (by omega) (by omega) (by first | exact ix0 _ | exact ix1 _ _ | rfl)) ?_
      refine LQ_nil ?_
      refine L_store1 2 rfl rfl rfl rfl rfl rfl rfl sz40i (by first | exact Nat.zero_lt_succ _ | (rw [wl_len, acc_len _ _ _ (by omega)]; omega) | (rw [wl_len, arr_len _ (by omega)]; omega) | (rw [hL_len _ (acc_len _ _ _ (by omega)) hbl]; omega)) rfl ?_
      refine L_nil ?_
      change J _ _ _ _
      refine J_region ?_
      refine L_v rfl rfl rfl (V_move rfl rfl) ?_
      refine L_v rfl rfl rfl (V_add rfl rfl rfl (by first | exact Go.IntWalk.i64_in _ (by omega) | rfl)) ?_
      refine L_v rfl rfl rfl (V_assign rfl rfl) ?_
      refine L_nil ?_
      have e9 : (wl (arr bl t)).set ((t : Nat) : Int).toNat (.int .u32 (wi (s1 (nw (arr bl t) ((t : Int) - 2)) + nw (arr bl t) ((t : Int) - 7) + s0 (nw (arr bl t) ((t : Int) - 15)) + nw (arr bl t) ((t : Int) - 16)))) = wl (arr bl (t + 1)) := by
        rw [Int.toNat_natCast, show (Value.int .u32 (wi (s1 (nw (arr bl t) ((t : Int) - 2)) + nw (arr bl t) ((t : Int) - 7) + s0 (nw (arr bl t) ((t : Int) - 15)) + nw (arr bl t) ((t : Int) - 16)))) = wv (if t < 16 then wd bl t else nx (sch bl t) t) from by rw [if_neg (by omega), arr_get bl (j := t - 2) (by omega) (by omega), arr_get bl (j := t - 7) (by omega) (by omega), arr_get bl (j := t - 15) (by omega) (by omega), arr_get bl (j := t - 16) (by omega) (by omega), nx_ref], wl_set, arr_set bl (by omega)]
      exact ⟨t + 1, ⟨by omega, by omega⟩, by omega, ⟨rfl, rfl, rfl, rfl, trivial⟩, (by rw [← e9]; exact List.Sublist.refl _), fun f hf => hf, rfl⟩
    ·
      first | (have h2 := h2; rw [decide_eq_true_eq] at h2) | (have h2 := h2; rw [decide_eq_false_iff_not] at h2) | skip
      obtain rfl : t = 64 := by omega
      refine J_exit ?_
      change J _ _ _ _
      refine J_seq ?_
      refine J_region ?_
      refine L_v rfl rfl rfl (V_loadW 0 rfl rfl rfl Tryd.underlying41 rfl (szd sz41i (by first | (rw [wl_len]; rfl) | (rw [wl_len, acc_len _ _ _ (by omega)])))) ?_
      refine L_alloc rfl rfl rfl rfl z41i (fun b3 => ?_)
      refine L_storeW 3 rfl rfl rfl rfl rfl rfl (szd sz41i (by first | (rw [wl_len]; rfl) | (rw [wl_len, acc_len _ _ _ (by omega)]))) (by first | exact wl_one _ | exact hL_one _ _ _ | exact dg_one _) (by first | (rw [wl_len]; rfl) | (rw [wl_len, acc_len _ _ _ (by omega)])) ?_
      refine L_nil ?_
      change J _ _ _ _
      refine J_seq ?_
      refine J_seq ?_
      refine J_region ?_
      refine L_v rfl rfl rfl (V_assign rfl rfl) ?_
      refine L_nil ?_
      change J _ _ _ _
      refine J_block ?_
      refine J_loop (X := Nat) (fun t => { env := [(2, .pointer (some ⟨b0, 0, none⟩)), (4, .pointer (some ⟨b1, 0, none⟩)), (5, .pointer (some ⟨b2, 0, none⟩)), (10, .pointer (some ⟨b3, 0, none⟩)), (11, .int .i64 (t : Int))], mem := [(b0, row 41 (wl ws.l)), (b1, row 41 (wl (List.replicate 8 0))), (b2, row 44 (wl (arr bl 64))), (b3, row 41 (wl (rnd KT (arr bl 64) ws t).l))] }) (fun t => t ≤ 64) (fun t => 64 - t) 0 (Nat.zero_le _) ⟨⟨rfl, rfl, rfl, rfl, rfl, trivial⟩, List.Sublist.refl _, fun f hf => hf, rfl⟩ ?_
      rintro t ht
      refine J_seq ?_
      refine J_seq ?_
      refine J_region ?_
      refine L_v rfl rfl rfl (V_move rfl rfl) ?_
      refine L_v rfl rfl rfl (V_lss rfl rfl rfl (by first | exact decide_eq_true (by omega) | exact decide_eq_false (by omega) | rfl)) ?_
      refine L_nil ?_
      change J _ _ _ _
      refine J_cond rfl (fun h3 => ?_) (fun h3 => ?_)
      ·
        first | (have h3 := h3; rw [decide_eq_true_eq] at h3) | (have h3 := h3; rw [decide_eq_false_iff_not] at h3) | skip
        refine J_skip ?_
        change J _ _ _ _
        refine J_seq ?_
        refine J_block ?_
        refine J_seq ?_
        refine J_regionQ rfl (by kernel_rfl) ?_
        refine LQ_v rfl rfl rfl (V_indexArr rfl rfl rfl Tryd.underlying41 sz40i (by omega) (by omega) (by first | exact ix0 _ | exact ix1 _ _ | rfl)) ?_
        refine LQ_v rfl rfl rfl (V_load1 3 rfl rfl rfl Tryd.underlying40 rfl (by first | rfl | exact wl_get (by omega) (by omega))) ?_
        refine LQ_callV rfl rfl rfl rfl rfl rfl tx24i (fun w _ => turned_w _ 6 w (by decide) (by decide)) ?_
        refine LQ_v rfl rfl rfl (V_indexArr rfl rfl rfl Tryd.underlying41 sz40i (by omega) (by omega) (by first | exact ix0 _ | exact ix1 _ _ | rfl)) ?_
        refine LQ_v rfl rfl rfl (V_load1 3 rfl rfl rfl Tryd.underlying40 rfl (by first | rfl | exact wl_get (by omega) (by omega))) ?_
        refine LQ_callV rfl rfl rfl rfl rfl rfl tx24i (fun w _ => turned_w _ 11 w (by decide) (by decide)) ?_
        refine LQ_v rfl rfl rfl (V_xor rfl rfl rfl (w_xor _ _)) ?_
        refine LQ_v rfl rfl rfl (V_indexArr rfl rfl rfl Tryd.underlying41 sz40i (by omega) (by omega) (by first | exact ix0 _ | exact ix1 _ _ | rfl)) ?_
        refine LQ_v rfl rfl rfl (V_load1 3 rfl rfl rfl Tryd.underlying40 rfl (by first | rfl | exact wl_get (by omega) (by omega))) ?_
        refine LQ_callV rfl rfl rfl rfl rfl rfl tx24i (fun w _ => turned_w _ 25 w (by decide) (by decide)) ?_
        refine LQ_v rfl rfl rfl (V_xor rfl rfl rfl (w_xor _ _)) ?_
        refine LQ_v rfl rfl rfl (V_assign rfl rfl) ?_
        refine LQ_nil ?_
        change J _ _ _ _
        refine J_seq ?_
        refine J_regionQ rfl (by kernel_rfl) ?_
        refine LQ_v rfl rfl rfl (V_indexArr rfl rfl rfl Tryd.underlying41 sz40i (by omega) (by omega) (by first | exact ix0 _ | exact ix1 _ _ | rfl)) ?_
        refine LQ_v rfl rfl rfl (V_load1 3 rfl rfl rfl Tryd.underlying40 rfl (by first | rfl | exact wl_get (by omega) (by omega))) ?_
        refine LQ_callV rfl rfl rfl rfl rfl rfl tx24i (fun w _ => turned_w _ 2 w (by decide) (by decide)) ?_
        refine LQ_v rfl rfl rfl (V_indexArr rfl rfl rfl Tryd.underlying41 sz40i (by omega) (by omega) (by first | exact ix0 _ | exact ix1 _ _ | rfl)) ?_
        refine LQ_v rfl rfl rfl (V_load1 3 rfl rfl rfl Tryd.underlying40 rfl (by first | rfl | exact wl_get (by omega) (by omega))) ?_
        refine LQ_callV rfl rfl rfl rfl rfl rfl tx24i (fun w _ => turned_w _ 13 w (by decide) (by decide)) ?_
        refine LQ_v rfl rfl rfl (V_xor rfl rfl rfl (w_xor _ _)) ?_
        refine LQ_v rfl rfl rfl (V_indexArr rfl rfl rfl Tryd.underlying41 sz40i (by omega) (by omega) (by first | exact ix0 _ | exact ix1 _ _ | rfl)) ?_
        refine LQ_v rfl rfl rfl (V_load1 3 rfl rfl rfl Tryd.underlying40 rfl (by first | rfl | exact wl_get (by omega) (by omega))) ?_
        refine LQ_callV rfl rfl rfl rfl rfl rfl tx24i (fun w _ => turned_w _ 22 w (by decide) (by decide)) ?_
        refine LQ_v rfl rfl rfl (V_xor rfl rfl rfl (w_xor _ _)) ?_
        refine LQ_v rfl rfl rfl (V_assign rfl rfl) ?_
        refine LQ_nil ?_
        change J _ _ _ _
        refine J_seq ?_
        refine J_regionQ rfl (by kernel_rfl) ?_
        refine LQ_v rfl rfl rfl (V_indexArr rfl rfl rfl Tryd.underlying41 sz40i (by omega) (by omega) (by first | exact ix0 _ | exact ix1 _ _ | rfl)) ?_
        refine LQ_v rfl rfl rfl (V_load1 3 rfl rfl rfl Tryd.underlying40 rfl (by first | rfl | exact wl_get (by omega) (by omega))) ?_
        refine LQ_v rfl rfl rfl (V_move rfl rfl) ?_
        refine LQ_v rfl rfl rfl (V_add rfl rfl rfl (w_add _ _)) ?_
        refine LQ_v rfl rfl rfl (V_indexArr rfl rfl rfl Tryd.underlying41 sz40i (by omega) (by omega) (by first | exact ix0 _ | exact ix1 _ _ | rfl)) ?_
        refine LQ_v rfl rfl rfl (V_load1 3 rfl rfl rfl Tryd.underlying40 rfl (by first | rfl | exact wl_get (by omega) (by omega))) ?_
        refine LQ_v rfl rfl rfl (V_indexArr rfl rfl rfl Tryd.underlying41 sz40i (by omega) (by omega) (by first | exact ix0 _ | exact ix1 _ _ | rfl)) ?_
        refine LQ_v rfl rfl rfl (V_load1 3 rfl rfl rfl Tryd.underlying40 rfl (by first | rfl | exact wl_get (by omega) (by omega))) ?_
        refine LQ_v rfl rfl rfl (V_and rfl rfl rfl (w_and _ _)) ?_
        refine LQ_v rfl rfl rfl (V_indexArr rfl rfl rfl Tryd.underlying41 sz40i (by omega) (by omega) (by first | exact ix0 _ | exact ix1 _ _ | rfl)) ?_
        refine LQ_v rfl rfl rfl (V_load1 3 rfl rfl rfl Tryd.underlying40 rfl (by first | rfl | exact wl_get (by omega) (by omega))) ?_
        refine LQ_v rfl rfl rfl (V_com rfl rfl (w_not _)) ?_
        refine LQ_v rfl rfl rfl (V_indexArr rfl rfl rfl Tryd.underlying41 sz40i (by omega) (by omega) (by first | exact ix0 _ | exact ix1 _ _ | rfl)) ?_
        refine LQ_v rfl rfl rfl (V_load1 3 rfl rfl rfl Tryd.underlying40 rfl (by first | rfl | exact wl_get (by omega) (by omega))) ?_
        refine LQ_v rfl rfl rfl (V_and rfl rfl rfl (w_and _ _)) ?_
        refine LQ_v rfl rfl rfl (V_xor rfl rfl rfl ((w_xor _ _).trans (congrArg wi (ch_eq _ _ _)))) ?_
        refine LQ_v rfl rfl rfl (V_add rfl rfl rfl (w_add _ _)) ?_
        refine LQ_v rfl rfl rfl (V_move rfl rfl) ?_
        refine LQ_v rfl rfl rfl (V_indexArr rfl rfl rfl Tryd.underlying44 sz40i (by omega) (by omega) (by rw [Int.toNat_natCast, Nat.zero_add, Nat.mul_one])) ?_
        refine LQ_v rfl rfl rfl (V_load rfl rfl Tryd.underlying40 rfl (fun w hw => TabK.later hw (by simp) hK t (by omega))) ?_
        refine LQ_v rfl rfl rfl (V_add rfl rfl rfl (w_add _ _)) ?_
        refine LQ_v rfl rfl rfl (V_move rfl rfl) ?_
        refine LQ_v rfl rfl rfl (V_indexArr rfl rfl rfl Tryd.underlying44 sz40i (by omega) (by omega) (by first | exact ix0 _ | exact ix1 _ _ | rfl)) ?_
        refine LQ_v rfl rfl rfl (V_load1 2 rfl rfl rfl Tryd.underlying40 rfl (wl_get (by omega) (by rw [arr_len _ (by omega)]; omega))) ?_
        refine LQ_v rfl rfl rfl (V_add rfl rfl rfl (w_add _ _)) ?_
        refine LQ_v rfl rfl rfl (V_assign rfl rfl) ?_
        refine LQ_nil ?_
        change J _ _ _ _
        refine J_seq ?_
        refine J_region ?_
        refine L_v rfl rfl rfl (V_move rfl rfl) ?_
        refine L_v rfl rfl rfl (V_indexArr rfl rfl rfl Tryd.underlying41 sz40i (by omega) (by omega) (by first | exact ix0 _ | exact ix1 _ _ | rfl)) ?_
        refine L_v rfl rfl rfl (V_load1 3 rfl rfl rfl Tryd.underlying40 rfl (by first | rfl | exact wl_get (by omega) (by omega))) ?_
        refine L_v rfl rfl rfl (V_indexArr rfl rfl rfl Tryd.underlying41 sz40i (by omega) (by omega) (by first | exact ix0 _ | exact ix1 _ _ | rfl)) ?_
        refine L_v rfl rfl rfl (V_load1 3 rfl rfl rfl Tryd.underlying40 rfl (by first | rfl | exact wl_get (by omega) (by omega))) ?_
        refine L_v rfl rfl rfl (V_and rfl rfl rfl (w_and _ _)) ?_
        refine L_v rfl rfl rfl (V_indexArr rfl rfl rfl Tryd.underlying41 sz40i (by omega) (by omega) (by first | exact ix0 _ | exact ix1 _ _ | rfl)) ?_
        refine L_v rfl rfl rfl (V_load1 3 rfl rfl rfl Tryd.underlying40 rfl (by first | rfl | exact wl_get (by omega) (by omega))) ?_
        refine L_v rfl rfl rfl (V_indexArr rfl rfl rfl Tryd.underlying41 sz40i (by omega) (by omega) (by first | exact ix0 _ | exact ix1 _ _ | rfl)) ?_
        refine L_v rfl rfl rfl (V_load1 3 rfl rfl rfl Tryd.underlying40 rfl (by first | rfl | exact wl_get (by omega) (by omega))) ?_
        refine L_v rfl rfl rfl (V_and rfl rfl rfl (w_and _ _)) ?_
        refine L_v rfl rfl rfl (V_xor rfl rfl rfl (w_xor _ _)) ?_
        refine L_v rfl rfl rfl (V_indexArr rfl rfl rfl Tryd.underlying41 sz40i (by omega) (by omega) (by first | exact ix0 _ | exact ix1 _ _ | rfl)) ?_
        refine L_v rfl rfl rfl (V_load1 3 rfl rfl rfl Tryd.underlying40 rfl (by first | rfl | exact wl_get (by omega) (by omega))) ?_
        refine L_v rfl rfl rfl (V_indexArr rfl rfl rfl Tryd.underlying41 sz40i (by omega) (by omega) (by first | exact ix0 _ | exact ix1 _ _ | rfl)) ?_
        refine L_v rfl rfl rfl (V_load1 3 rfl rfl rfl Tryd.underlying40 rfl (by first | rfl | exact wl_get (by omega) (by omega))) ?_
        refine L_v rfl rfl rfl (V_and rfl rfl rfl (w_and _ _)) ?_
        refine L_v rfl rfl rfl (V_xor rfl rfl rfl ((w_xor _ _).trans (congrArg wi (mj_eq _ _ _)))) ?_
        refine L_v rfl rfl rfl (V_add rfl rfl rfl (w_add _ _)) ?_
        refine L_v rfl rfl rfl (V_assign rfl rfl) ?_
        refine L_nil ?_
        change J _ _ _ _
        refine J_region ?_
        refine L_v rfl rfl rfl (V_move rfl rfl) ?_
        refine L_v rfl rfl rfl (V_move rfl rfl) ?_
        refine L_v rfl rfl rfl (V_add rfl rfl rfl (w_add _ _)) ?_
        refine L_v rfl rfl rfl (V_indexArr rfl rfl rfl Tryd.underlying41 sz40i (by omega) (by omega) (by first | exact ix0 _ | exact ix1 _ _ | rfl)) ?_
        refine L_v rfl rfl rfl (V_load1 3 rfl rfl rfl Tryd.underlying40 rfl (by first | rfl | exact wl_get (by omega) (by omega))) ?_
        refine L_v rfl rfl rfl (V_indexArr rfl rfl rfl Tryd.underlying41 sz40i (by omega) (by omega) (by first | exact ix0 _ | exact ix1 _ _ | rfl)) ?_
        refine L_v rfl rfl rfl (V_load1 3 rfl rfl rfl Tryd.underlying40 rfl (by first | rfl | exact wl_get (by omega) (by omega))) ?_
        refine L_v rfl rfl rfl (V_indexArr rfl rfl rfl Tryd.underlying41 sz40i (by omega) (by omega) (by first | exact ix0 _ | exact ix1 _ _ | rfl)) ?_
        refine L_v rfl rfl rfl (V_load1 3 rfl rfl rfl Tryd.underlying40 rfl (by first | rfl | exact wl_get (by omega) (by omega))) ?_
        refine L_v rfl rfl rfl (V_indexArr rfl rfl rfl Tryd.underlying41 sz40i (by omega) (by omega) (by first | exact ix0 _ | exact ix1 _ _ | rfl)) ?_
        refine L_v rfl rfl rfl (V_load1 3 rfl rfl rfl Tryd.underlying40 rfl (by first | rfl | exact wl_get (by omega) (by omega))) ?_
        refine L_v rfl rfl rfl (V_move rfl rfl) ?_
        refine L_v rfl rfl rfl (V_add rfl rfl rfl (w_add _ _)) ?_
        refine L_v rfl rfl rfl (V_indexArr rfl rfl rfl Tryd.underlying41 sz40i (by omega) (by omega) (by first | exact ix0 _ | exact ix1 _ _ | rfl)) ?_
        refine L_v rfl rfl rfl (V_load1 3 rfl rfl rfl Tryd.underlying40 rfl (by first | rfl | exact wl_get (by omega) (by omega))) ?_
        refine L_v rfl rfl rfl (V_indexArr rfl rfl rfl Tryd.underlying41 sz40i (by omega) (by omega) (by first | exact ix0 _ | exact ix1 _ _ | rfl)) ?_
        refine L_v rfl rfl rfl (V_load1 3 rfl rfl rfl Tryd.underlying40 rfl (by first | rfl | exact wl_get (by omega) (by omega))) ?_
        refine L_v rfl rfl rfl (V_indexArr rfl rfl rfl Tryd.underlying41 sz40i (by omega) (by omega) (by first | exact ix0 _ | exact ix1 _ _ | rfl)) ?_
        refine L_v rfl rfl rfl (V_load1 3 rfl rfl rfl Tryd.underlying40 rfl (by first | rfl | exact wl_get (by omega) (by omega))) ?_
        refine L_v rfl rfl rfl (V_build (vs := [(0, wv _), (1, wv _), (2, wv _), (3, wv _), (4, wv _), (5, wv _), (6, wv _), (7, wv _)]) rfl rfl (bd8 _ _ _ _ _ _ _ _)) ?_
        refine L_storeW 3 rfl rfl rfl rfl rfl rfl (szd sz41i (by first | (rw [wl_len]; rfl) | (rw [wl_len, acc_len _ _ _ (by omega)]))) (by first | exact wl_one _ | exact hL_one _ _ _ | exact dg_one _) (by first | (rw [wl_len]; rfl) | (rw [wl_len, acc_len _ _ _ (by omega)])) ?_
        refine L_nil ?_
        change J _ _ _ _
        refine J_region ?_
        refine L_v rfl rfl rfl (V_move rfl rfl) ?_
        refine L_v rfl rfl rfl (V_add rfl rfl rfl (by first | exact Go.IntWalk.i64_in _ (by omega) | rfl)) ?_
        refine L_v rfl rfl rfl (V_assign rfl rfl) ?_
        refine L_nil ?_
        exact ⟨t + 1, by omega, by omega, ⟨rfl, rfl, rfl, rfl, rfl, trivial⟩, List.Sublist.refl _, fun f hf => hf, rfl⟩
      ·
        first | (have h3 := h3; rw [decide_eq_true_eq] at h3) | (have h3 := h3; rw [decide_eq_false_iff_not] at h3) | skip
        obtain rfl : t = 64 := by omega
        have hblk : blk KT ws bl = ws.add (rnd KT (arr bl 64) ws 64) := by unfold blk; rw [arr_end]
        obtain ⟨R, hR⟩ : ∃ R, rnd KT (arr bl 64) ws 64 = R := ⟨_, rfl⟩
        rw [hR]
        refine J_exit ?_
        change J _ _ _ _
        refine J_seq ?_
        refine J_seq ?_
        refine J_region ?_
        refine L_v rfl rfl rfl (V_assign rfl rfl) ?_
        refine L_nil ?_
        change J _ _ _ _
        refine J_block ?_
        refine J_loop (X := Nat) (fun i => { env := [(2, .pointer (some ⟨b0, 0, none⟩)), (4, .pointer (some ⟨b1, 0, none⟩)), (10, .pointer (some ⟨b3, 0, none⟩)), (16, .int .i64 (i : Int))], mem := [(b0, row 41 (wl (acc ws R i))), (b1, row 41 (wl (List.replicate 8 0))), (b2, row 44 (wl (arr bl 64))), (b3, row 41 (wl R.l))] }) (fun i => i ≤ 8) (fun i => 8 - i) 0 (Nat.zero_le _) ⟨⟨rfl, rfl, rfl, rfl, trivial⟩, (by subst hR; exact List.Sublist.refl _), fun f hf => hf, rfl⟩ ?_
        rintro i hi
        refine J_seq ?_
        refine J_seq ?_
        refine J_region ?_
        refine L_v rfl rfl rfl (V_move rfl rfl) ?_
        refine L_v rfl rfl rfl (V_lss rfl rfl rfl (by first | exact decide_eq_true (by omega) | exact decide_eq_false (by omega) | rfl)) ?_
        refine L_nil ?_
        change J _ _ _ _
        refine J_cond rfl (fun h4 => ?_) (fun h4 => ?_)
        ·
          first | (have h4 := h4; rw [decide_eq_true_eq] at h4) | (have h4 := h4; rw [decide_eq_false_iff_not] at h4) | skip
          refine J_skip ?_
          change J _ _ _ _
          refine J_seq ?_
          refine J_block ?_
          refine J_regionT 9 rfl (by kernel_rfl) ?_
          refine LQ_v rfl rfl rfl (V_move rfl rfl) ?_
          refine LQ_v rfl rfl rfl (V_move rfl rfl) ?_
          refine LQ_v rfl rfl rfl (V_indexArr rfl rfl rfl Tryd.underlying41 sz40i (by omega) (by omega) (by first | exact ix0 _ | exact ix1 _ _ | rfl)) ?_
          refine LQ_v rfl rfl rfl (V_load1 0 rfl rfl rfl Tryd.underlying40 rfl (wl_get (by omega) (by rw [acc_len _ _ _ (by omega)]; omega))) ?_
          refine LQ_v rfl rfl rfl (V_move rfl rfl) ?_
          refine LQ_v rfl rfl rfl (V_indexArr rfl rfl rfl Tryd.underlying41 sz40i (by omega) (by omega) (by first | exact ix0 _ | exact ix1 _ _ | rfl)) ?_
          refine LQ_v rfl rfl rfl (V_load1 3 rfl rfl rfl Tryd.underlying40 rfl (wl_get (by omega) (by show _ < ((8 : Nat) : Int); omega))) ?_
          refine LQ_v rfl rfl rfl (V_add rfl rfl rfl (w_add _ _)) ?_
          refine LQ_v rfl rfl rfl (V_indexArr rfl rfl rfl Tryd.underlying41 sz40i (by omega) (by omega) (by first | exact ix0 _ | exact ix1 _ _ | rfl)) ?_
          refine LQ_nil ?_
          refine L_store1 0 rfl rfl rfl rfl rfl rfl rfl sz40i (by first | exact Nat.zero_lt_succ _ | (rw [wl_len, acc_len _ _ _ (by omega)]; omega) | (rw [wl_len, arr_len _ (by omega)]; omega) | (rw [hL_len _ (acc_len _ _ _ (by omega)) hbl]; omega)) rfl ?_
          refine L_nil ?_
          change J _ _ _ _
          refine J_region ?_
          refine L_v rfl rfl rfl (V_move rfl rfl) ?_
          refine L_v rfl rfl rfl (V_add rfl rfl rfl (by first | exact Go.IntWalk.i64_in _ (by omega) | rfl)) ?_
          refine L_v rfl rfl rfl (V_assign rfl rfl) ?_
          refine L_nil ?_
          have e9 := acc_set ws R i (by omega)
          exact ⟨i + 1, by omega, by omega, ⟨rfl, rfl, rfl, rfl, trivial⟩, (by rw [← e9, ← wl_set]; exact List.Sublist.refl _), fun f hf => hf, rfl⟩
        ·
          first | (have h4 := h4; rw [decide_eq_true_eq] at h4) | (have h4 := h4; rw [decide_eq_false_iff_not] at h4) | skip
          obtain rfl : i = 8 := by omega
          refine J_exit ?_
          change J _ _ _ _
          refine J_seq ?_
          refine J_region ?_
          refine L_v rfl rfl rfl (V_loadW 0 rfl rfl rfl Tryd.underlying41 rfl (szd sz41i (by first | (rw [wl_len]; rfl) | (rw [wl_len, acc_len _ _ _ (by omega)])))) ?_
          refine L_storeW 1 rfl rfl rfl rfl rfl rfl (szd sz41i (by first | (rw [wl_len]; rfl) | (rw [wl_len, acc_len _ _ _ (by omega)]))) (by first | exact wl_one _ | exact hL_one _ _ _ | exact dg_one _) (by first | (rw [wl_len]; rfl) | (rw [wl_len, acc_len _ _ _ (by omega)])) ?_
          refine L_nil ?_
          change J _ _ _ _
          refine J_ret ?_
          change Kret _ _ _ Exit.ret _
          refine ret1 rfl rfl (RV_c 1 rfl rfl Tryd.underlying41 rfl (szd sz41i (by first | (rw [wl_len]; rfl) | (rw [wl_len, acc_len _ _ _ (by omega)])))) ?_
          exact fun w' h => ⟨by rw [hblk, hR]; rfl, h.fr⟩

end Go.Proofs.YtejhcdjfcopphaaDoor
