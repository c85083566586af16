/- What layer 3 and its reference make of a key and bytes. -/
import Derived.Test.YtbckeoidnpfbnaaDoorSha4
import Derived.Test.YtbckeoidnpfbnaaDoorMacPure
set_option linter.unusedVariables false
set_option linter.unusedSimpArgs false
set_option maxRecDepth 100000
namespace Go.Proofs.YtbckeoidnpfbnaaDoor
open Go.Sx
theorem hsum_b (b : Nat) (ws : R8) (bl m : List Int) (w : World) (hb : w.heap[b]? = some (row 73 (hL ws.l bl (m.length : Int)))) (hs : HS m ws bl) (hK : TabK KT 0 w) (hsz : m.length ≤ 1099511627000) {d : List Int} (h : shaP m = d) : Calls Tryd.prog 30 #[.pointer (some ⟨b, 0, none⟩)] w fun e w' => e = .returned (.agg (dg d).toArray) ∧ Fr [] w w' := by
  subst h
  exact hsum_w b ws bl m w hb hs hK hsz
theorem sz5m : (Tryd.prog.info? 5).map (·.size) = some 1 := by kernel_rfl
theorem sz23m : (Tryd.prog.info? 23).map (·.size) = some 32 := by kernel_rfl
theorem sz58m : (Tryd.prog.info? 58).map (·.size) = some 64 := by kernel_rfl
theorem tx13m : Txt Tryd.prog 13 := txt_of Tryd.func13 rfl (by kernel_rfl)
theorem tx28m : Txt Tryd.prog 28 := txt_of Tryd.func28 rfl (by kernel_rfl)
theorem tx29m : Txt Tryd.prog 29 := txt_of Tryd.func29 rfl (by kernel_rfl)
theorem tx30m : Txt Tryd.prog 30 := txt_of Tryd.func30 rfl (by kernel_rfl)
theorem tx35m : Txt Tryd.prog 35 := txt_of Tryd.func35 rfl (by kernel_rfl)
theorem tx36m : Txt Tryd.prog 36 := txt_of Tryd.func36 rfl (by kernel_rfl)
theorem tx37m : Txt Tryd.prog 37 := txt_of Tryd.func37 rfl (by kernel_rfl)
theorem z23m : (Tryd.prog.info? 23).bind (·.zero) = some (.agg (dg zd).toArray) := by kernel_rfl
theorem z58m : (Tryd.prog.info? 58).bind (·.zero) = some (.agg (dg (List.replicate 64 0)).toArray) := by kernel_rfl

theorem xf_w (x p : Int) (b : Nat) (w : World) (hb : w.heap[b]? = some (row 5 [.int .u8 p])) :
    Calls Tryd.prog 37 #[.int .u8 x, .pointer (some ⟨b, 0, none⟩)] w fun e w' => e = .returned (.int .u8 (xb p x)) ∧ Fr [] w w' := by
  refine calls_of (args := [.int .u8 x, .pointer (some ⟨b, 0, none⟩)]) ([]) ([]) ([]) Tryd.func37 rfl rfl (okW0 _ _ _ _) ?_
  refine J_seq ?_
  refine J_region ?_
  refine L_v rfl rfl rfl (V_assign rfl rfl) ?_
  refine L_nil ?_
  change J _ _ _ _
  refine J_seq ?_
  refine J_region ?_
  refine L_v rfl rfl rfl (V_move rfl rfl) ?_
  refine L_v rfl rfl rfl (V_loadF rfl rfl Tryd.underlying5 rfl (fun w hw => OkW.later hw rfl hb) rfl) ?_
  refine L_v rfl rfl rfl (V_xor rfl rfl rfl rfl) ?_
  refine L_v rfl rfl rfl (V_assign rfl rfl) ?_
  refine L_nil ?_
  change J _ _ _ _
  refine J_ret ?_
  change Kret _ _ _ Exit.ret _
  refine ret1 rfl rfl (RV_t rfl) ?_
  exact fun w' h => ⟨rfl, h.fr⟩

theorem trn_w (k : List Int) (p : Int) (b : Nat) (w : World) (hb : w.heap[b]? = some (row 5 [.int .u8 p])) (hk : k.length = 64) :
    Calls Tryd.prog 36 #[.agg (dg k).toArray, .func (.func 37) #[] #[.pointer (some ⟨b, 0, none⟩)]] w fun e w' => RetB 58 w (kx p k) 64 id e w' := by
  refine calls_of (args := [.agg (dg k).toArray, .func (.func 37) #[] #[.pointer (some ⟨b, 0, none⟩)]]) ([]) ([]) ([]) Tryd.func36 rfl rfl (okW0 _ _ _ _) ?_
  refine J_seq ?_
  refine J_region ?_
  refine L_box rfl rfl rfl rfl rfl (fun b0 => ?_)
  refine L_v rfl rfl rfl (V_assign rfl rfl) ?_
  refine L_nil ?_
  change J _ _ _ _
  refine J_seq ?_
  refine J_seq ?_
  refine J_region ?_
  refine L_v rfl rfl rfl (V_loadW 0 rfl rfl rfl Tryd.underlying58 rfl (szd sz58m (by first | (rw [dg_length]; assumption) | rfl))) ?_
  refine L_v rfl rfl rfl (V_move rfl rfl) ?_
  refine L_nil ?_
  change J _ _ _ _
  refine J_block ?_
  refine J_loop (X := Nat) (fun i => { env := [(1, .func (.func 37) #[] #[.pointer (some ⟨b, 0, none⟩)]), (2, .pointer (some ⟨b0, 0, none⟩)), (7, .agg (dg k).toArray), (8, .int .i64 (i : Int))], mem := [(b0, row 58 (dg ((kx p k).take i ++ k.drop i)))] }) (fun i => i ≤ 64) (fun i => 64 - i) 0 (Nat.zero_le _) ⟨⟨rfl, rfl, rfl, rfl, trivial⟩, (by show List.Sublist [(b0, row 58 (dg (List.take 0 (kx p k) ++ List.drop 0 k)))] _; rw [List.take_zero, List.drop_zero, List.nil_append]; exact List.Sublist.refl _), fun f hf => hf, rfl⟩ ?_
  rintro i hi
  refine J_seq ?_
  refine J_region ?_
  refine L_v rfl rfl rfl (V_lss rfl rfl rfl (by first | exact decide_eq_true (by omega) | exact decide_eq_false (by omega) | rfl)) ?_
  refine L_nil ?_
  change J _ _ _ _
  refine J_seq ?_
  refine J_cond rfl (fun h1 => ?_) (fun h1 => ?_)
  ·
    first | (have h1 := h1; rw [decide_eq_true_eq] at h1) | (have h1 := h1; rw [decide_eq_false_iff_not] at h1) | skip
    refine J_skip ?_
    change J _ _ _ _
    refine J_seq ?_
    refine J_block ?_
    refine J_seq ?_
    refine J_region ?_
    refine L_v rfl rfl rfl (V_move rfl rfl) ?_
    refine L_v rfl rfl rfl (V_indexA rfl rfl rfl Tryd.underlying58 sz5m Tryd.underlying5 rfl (by omega) (by omega) (by rw [Nat.mul_one, Int.toNat_natCast]; exact dgD (by omega))) ?_
    refine L_v rfl rfl rfl (V_assign rfl rfl) ?_
    refine L_v rfl rfl rfl (V_assign rfl rfl) ?_
    refine L_nil ?_
    change J _ _ _ _
    refine J_region ?_
    refine L_v rfl rfl rfl (V_move rfl rfl) ?_
    refine L_v rfl rfl rfl (V_move rfl rfl) ?_
    refine L_v rfl rfl rfl (V_move rfl rfl) ?_
    refine L_callV rfl rfl rfl rfl rfl rfl tx37m (fun w1 hw => xf_w (k.getD i 0) p b w1 (OkW.later hw rfl hb)) ?_
    refine L_v rfl rfl rfl (V_indexArr (off' := i) rfl rfl rfl Tryd.underlying58 sz5m (by omega) (by omega) (show 0 + ((i : Nat) : Int).toNat * 1 = i by omega)) ?_
    refine L_store1 0 rfl rfl rfl rfl rfl rfl rfl sz5m (by rw [dg_length, List.length_append, List.length_take, List.length_drop, kx_len]; omega) (by rw [dg_set, kx_set (by omega)]) ?_
    refine L_nil ?_
    change J _ _ _ _
    refine J_region ?_
    refine L_v rfl rfl rfl (V_add rfl rfl rfl (by first | exact Go.IntWalk.i64_in _ (by omega) | rfl)) ?_
    refine L_v rfl rfl rfl (V_move rfl rfl) ?_
    refine L_nil ?_
    exact ⟨i + 1, by omega, by omega, ⟨rfl, rfl, rfl, rfl, trivial⟩, List.Sublist.refl _, fun f hf => hf, rfl⟩
  ·
    first | (have h1 := h1; rw [decide_eq_true_eq] at h1) | (have h1 := h1; rw [decide_eq_false_iff_not] at h1) | skip
    obtain rfl : i = 64 := by omega
    have he : (kx p k).take 64 ++ k.drop 64 = kx p k := by rw [List.take_of_length_le (by rw [kx_len]; omega), List.drop_eq_nil_of_le (by omega), List.append_nil]
    rw [he]
    refine J_exit ?_
    change J _ _ _ _
    refine J_seq ?_
    refine J_region ?_
    refine L_v rfl rfl rfl (V_sliceArr rfl rfl Tryd.underlying58 sz5m) ?_
    refine L_v rfl rfl rfl (V_assign rfl rfl) ?_
    refine L_nil ?_
    change J _ _ _ _
    refine J_ret ?_
    change Kret _ _ _ Exit.ret _
    refine ret1 rfl rfl (RV_t rfl) ?_
    exact fun w' h => RetB.of h rfl 0 (r := []) (by show some _ = some _; rw [List.append_nil]) rfl (by rw [kx_len]; exact hk) (Nat.le_refl _) rfl

theorem by1_w (p : Int) (b : Nat) (k : List Int) (w : World) (hb : w.heap[b]? = some (row 58 (dg k))) (hk : k.length = 64) :
    Calls Tryd.prog 35 #[.int .u8 p, .pointer (some ⟨b, 0, none⟩)] w fun e w' => RetB 58 w (kx p k) 64 id e w' := by
  refine calls_of (args := [.int .u8 p, .pointer (some ⟨b, 0, none⟩)]) ([]) ([]) ([]) Tryd.func35 rfl rfl (okW0 _ _ _ _) ?_
  refine J_seq ?_
  refine J_region ?_
  refine L_box rfl rfl rfl rfl rfl (fun b0 => ?_)
  refine L_v rfl rfl rfl (V_assign rfl rfl) ?_
  refine L_nil ?_
  change J _ _ _ _
  refine J_seq ?_
  refine J_region ?_
  refine L_v rfl rfl rfl (V_loadWF rfl rfl Tryd.underlying58 rfl (fun w hw => OkW.later hw rfl hb) (szd sz58m (by first | (rw [dg_length]; assumption) | rfl))) ?_
  refine L_v rfl rfl rfl (V_makeFunc rfl rfl rfl) ?_
  refine L_callB rfl rfl rfl rfl rfl rfl tx36m (fun w1 hw => trn_w k p b0 w1 (hw.at (i := 0) rfl) hk) (fun g1 r1 c1 hl1 hc1 hr1 => ?_)
  refine L_v rfl rfl rfl (V_assign rfl rfl) ?_
  refine L_nil ?_
  change J _ _ _ _
  refine J_ret ?_
  change Kret _ _ _ Exit.ret _
  refine ret1 rfl rfl (RV_t rfl) ?_
  exact fun w' h => RetB.of h rfl 1 rfl rfl (by rw [kx_len]; exact hk) hc1 hr1

set_option maxHeartbeats 2000000 in
theorem mac_w (key : List Int) (a : Option Addr) (n c : Nat) (l2 : List Int) (a2 : Option Addr) (n2 c2 : Nat) (w : World) (hu : SlB w (.slice a n c) key) (hby : Byt key) (hu2 : SlB w (.slice a2 n2 c2) l2) (hby2 : Byt l2) (hcn : n ≤ c) (hcn2 : n2 ≤ c2) (hK : TabK KT 0 w) (hsz : key.length ≤ 1099511626000) (hsz2 : l2.length ≤ 1099511626000) :
    Calls Tryd.prog 19 #[.slice a n c, .slice a2 n2 c2] w fun e w' => e = .returned (.agg (dg (macP key l2)).toArray) ∧ Fr [] w w' := by
  have hul := hu.size
  have hul2 := hu2.size
  have h54 : (kx 54 (kp key)).length = 64 := by rw [kx_len, kp_len]
  have h92 : (kx 92 (kp key)).length = 64 := by rw [kx_len, kp_len]
  obtain ⟨DD, hDe⟩ : ∃ DD, DD = shaP (kx 54 (kp key) ++ l2) := ⟨_, rfl⟩
  have hDD : DD.length = 32 := by rw [hDe]; exact shaP_len _
  have hDb : Byt DD := by rw [hDe]; exact shaP_byt _
  refine calls_of (args := [.slice a n c, .slice a2 n2 c2]) ([]) ([]) ([]) Tryd.func19 rfl rfl (okW0 _ _ _ _) ?_
  refine J_seq ?_
  refine J_region ?_
  refine L_alloc rfl rfl rfl rfl z23m (fun b0 => ?_)
  refine L_nil ?_
  change J _ _ _ _
  refine J_seq ?_
  refine J_region ?_
  refine L_alloc rfl rfl rfl rfl z58m (fun b1 => ?_)
  refine L_nil ?_
  change J _ _ _ _
  refine J_seq ?_
  refine J_seq ?_
  refine J_region ?_
  refine L_v rfl rfl rfl (V_move rfl rfl) ?_
  refine L_v rfl rfl rfl (V_len rfl rfl Tryd.underlying26 rfl) ?_
  refine L_v rfl rfl rfl (V_gtr rfl rfl rfl (by first | exact decide_eq_true (by omega) | exact decide_eq_false (by omega) | rfl)) ?_
  refine L_nil ?_
  change J _ _ _ _
  refine J_cond rfl (fun h1 => ?_) (fun h1 => ?_)
  ·
    first | (have h1 := h1; rw [decide_eq_true_eq] at h1) | (have h1 := h1; rw [decide_eq_false_iff_not] at h1) | skip
    refine J_seq ?_
    refine J_region ?_
    refine L_v rfl rfl rfl (V_move rfl rfl) ?_
    refine L_callV rfl rfl rfl rfl rfl rfl tx13m (fun w1 hw => ssum_w key a n c w1 (SlB.later hw rfl hu) hby hcn (TabK.later hw (by simp) hK) (by omega)) ?_
    refine L_alloc rfl rfl rfl rfl z23m (fun b2 => ?_)
    refine L_storeW 2 rfl rfl rfl rfl rfl rfl (szd sz23m (by first | (rw [dg_length]; exact shaP_len _) | (rw [dg_length]; exact macP_len _ _) | (rw [dg_length, dg_length, hDD]; rfl) | (rw [dg_length, dg_length, shaP_len]; rfl) | (rw [dg_length, dg_length, macP_len]; rfl) | rfl | (rw [dg_length]; assumption))) (dg_one _) (by first | (rw [dg_length]; exact shaP_len _) | (rw [dg_length]; exact macP_len _ _) | (rw [dg_length, dg_length, hDD]; rfl) | (rw [dg_length, dg_length, shaP_len]; rfl) | (rw [dg_length, dg_length, macP_len]; rfl) | rfl | (rw [dg_length]; assumption)) ?_
    refine L_nil ?_
    change J _ _ _ _
    refine J_region ?_
    refine L_v rfl rfl rfl (V_sliceArr rfl rfl Tryd.underlying23 sz5m) ?_
    refine L_v rfl rfl rfl (V_assign rfl rfl) ?_
    refine L_nil ?_
    change J _ _ _ _
    refine J_seq ?_
    refine J_region ?_
    refine L_v rfl rfl rfl (V_sliceArr rfl rfl Tryd.underlying58 sz5m) ?_
    refine L_v rfl rfl rfl (V_move rfl rfl) ?_
    refine L_copyD 1 (dg (kp key)) rfl rfl rfl rfl rfl Tryd.underlying26 sz5m rfl (fun w1 hw => SlB.of_mem' hw (i := 2) rfl (shaP_len key) 32) (by rw [dg_length]; decide) (by show dg ((shaP key).take 64) ++ (dg (List.replicate 64 0)).drop (0 + min (shaP key).length 64) = _; rw [← kp_self (key := key) (by omega), ← kp_copy (by rw [shaP_len]; decide), dg_append]; simp [dg, List.map_take, List.map_drop]) ?_
    refine L_nil ?_
    change J _ _ _ _
    refine J_seq ?_
    refine J_region ?_
    refine L_v rfl rfl rfl (V_makeFunc rfl rfl rfl) ?_
    refine L_v rfl rfl rfl (V_assign rfl rfl) ?_
    refine L_nil ?_
    change J _ _ _ _
    refine J_seq ?_
    refine J_region ?_
    refine L_call rfl rfl rfl rfl tx28m (fun w1 hw => (hnew_w w1).mono ?_)
    rintro e w' ⟨b21, rfl, hfr21, hsz21, hb21⟩
    refine ⟨_, _, _, rfl, hw.add hfr21 hb21 hsz21, rfl, ?_⟩
    refine L_mem [(b0, row 23 (dg zd)), (b1, row 58 (dg (kp key))), (b2, row 23 (dg (shaP key))), (b21, row 73 (hL R0.l (List.replicate 64 0) 0))] rfl ?_
    refine L_call rfl rfl rfl rfl tx28m (fun w1 hw => (hnew_w w1).mono ?_)
    rintro e w' ⟨b22, rfl, hfr22, hsz22, hb22⟩
    refine ⟨_, _, _, rfl, hw.add hfr22 hb22 hsz22, rfl, ?_⟩
    refine L_mem [(b0, row 23 (dg zd)), (b1, row 58 (dg (kp key))), (b2, row 23 (dg (shaP key))), (b21, row 73 (hL R0.l (List.replicate 64 0) 0)), (b22, row 73 (hL R0.l (List.replicate 64 0) 0))] rfl ?_
    refine L_v rfl rfl rfl (V_assign rfl rfl) ?_
    refine L_v rfl rfl rfl (V_assign rfl rfl) ?_
    refine L_nil ?_
    change J _ _ _ _
    refine J_seq ?_
    refine J_region ?_
    refine L_v rfl rfl rfl (V_move rfl rfl) ?_
    refine L_v rfl rfl rfl (V_move rfl rfl) ?_
    refine L_callB rfl rfl rfl rfl rfl rfl tx35m (fun w1 hw => by1_w 54 b1 (kp key) w1 (hw.at (i := 1) rfl) (kp_len key)) (fun g8 r8 c8 hl8 hc8 hr8 => ?_)
    refine L_call rfl rfl rfl rfl tx29m (fun w1 hw => (write_w b21 R0 (List.replicate 64 0) [] (kx 54 (kp key)) (some ⟨g8, 0, none⟩) 64 c8 w1 (hw.at (i := 3) rfl) hs0 (SlB.of_own hw (i := 5) (l := kx 54 (kp key)) (r := r8) rfl h54 c8) (apB (hw.ne (i := 5) (j := 3) rfl rfl (by decide))) (kx_byt _ _) hc8 (TabK.later hw (by simp) hK) fun e => by have h1 : w.heap.size ≤ b21 := hw.ge rfl (i := 3) rfl; have h2 := hK.lt; omega (by rw [h54]; decide)).mono ?_)
    rintro e w' ⟨ws1, bl1, rfl, hfr1, hb1, hs1⟩
    refine ⟨_, _, _, rfl, hw.set (i := 3) rfl hfr1 hb1, rfl, ?_⟩
    refine L_mem [(b0, row 23 (dg zd)), (b1, row 58 (dg (kp key))), (b2, row 23 (dg (shaP key))), (b21, row 73 (hL ws1.l bl1 ((([] : List Int).length + (kx 54 (kp key)).length : Nat) : Int))), (b22, row 73 (hL R0.l (List.replicate 64 0) 0)), (g8, row 58 (dg (kx 54 (kp key)) ++ r8))] rfl ?_
    refine L_nil ?_
    change J _ _ _ _
    refine J_seq ?_
    refine J_region ?_
    refine L_v rfl rfl rfl (V_move rfl rfl) ?_
    refine L_v rfl rfl rfl (V_move rfl rfl) ?_
    refine L_call rfl rfl rfl rfl tx29m (fun w1 hw => (write_w b21 ws1 bl1 (kx 54 (kp key)) l2 a2 n2 c2 w1 (by have h9 := hw.at (i := 3) rfl; rw [show ([] : List Int).length + (kx 54 (kp key)).length = (kx 54 (kp key)).length by simp] at h9; exact h9) hs1 (SlB.later hw rfl hu2) (apF hu2 (hw.ge rfl (i := 3) rfl)) hby2 hcn2 (TabK.later hw (by simp) hK) fun e => by have h1 : w.heap.size ≤ b21 := hw.ge rfl (i := 3) rfl; have h2 := hK.lt; omega (by rw [h54]; omega)).mono ?_)
    rintro e w' ⟨ws2, bl2, rfl, hfr2, hb2, hs2⟩
    refine ⟨_, _, _, rfl, hw.set (i := 3) rfl hfr2 hb2, rfl, ?_⟩
    refine L_mem [(b0, row 23 (dg zd)), (b1, row 58 (dg (kp key))), (b2, row 23 (dg (shaP key))), (b21, row 73 (hL ws2.l bl2 (((kx 54 (kp key)).length + l2.length : Nat) : Int))), (b22, row 73 (hL R0.l (List.replicate 64 0) 0)), (g8, row 58 (dg (kx 54 (kp key)) ++ r8))] rfl ?_
    refine L_nil ?_
    change J _ _ _ _
    refine J_seq ?_
    refine J_region ?_
    refine L_v rfl rfl rfl (V_move rfl rfl) ?_
    refine L_callV rfl rfl rfl rfl rfl rfl tx30m (fun w1 hw => hsum_b b21 ws2 bl2 (kx 54 (kp key) ++ l2) w1 (by rw [List.length_append]; exact hw.at (i := 3) rfl) hs2 (TabK.later hw (by simp) hK) (by rw [List.length_append, h54]; omega) hDe.symm) ?_
    refine L_alloc rfl rfl rfl rfl z23m (fun b6 => ?_)
    refine L_storeW 6 rfl rfl rfl rfl rfl rfl (szd sz23m (by first | (rw [dg_length]; exact shaP_len _) | (rw [dg_length]; exact macP_len _ _) | (rw [dg_length, dg_length, hDD]; rfl) | (rw [dg_length, dg_length, shaP_len]; rfl) | (rw [dg_length, dg_length, macP_len]; rfl) | rfl | (rw [dg_length]; assumption))) (dg_one _) (by first | (rw [dg_length]; exact shaP_len _) | (rw [dg_length]; exact macP_len _ _) | (rw [dg_length, dg_length, hDD]; rfl) | (rw [dg_length, dg_length, shaP_len]; rfl) | (rw [dg_length, dg_length, macP_len]; rfl) | rfl | (rw [dg_length]; assumption)) ?_
    refine L_nil ?_
    change J _ _ _ _
    refine J_seq ?_
    refine J_region ?_
    refine L_v rfl rfl rfl (V_move rfl rfl) ?_
    refine L_v rfl rfl rfl (V_move rfl rfl) ?_
    refine L_callB rfl rfl rfl rfl rfl rfl tx35m (fun w1 hw => by1_w 92 b1 (kp key) w1 (hw.at (i := 1) rfl) (kp_len key)) (fun g9 r9 c9 hl9 hc9 hr9 => ?_)
    refine L_call rfl rfl rfl rfl tx29m (fun w1 hw => (write_w b22 R0 (List.replicate 64 0) [] (kx 92 (kp key)) (some ⟨g9, 0, none⟩) 64 c9 w1 (hw.at (i := 4) rfl) hs0 (SlB.of_own hw (i := 7) (l := kx 92 (kp key)) (r := r9) rfl h92 c9) (apB (hw.ne (i := 7) (j := 4) rfl rfl (by decide))) (kx_byt _ _) hc9 (TabK.later hw (by simp) hK) fun e => by have h1 : w.heap.size ≤ b22 := hw.ge rfl (i := 4) rfl; have h2 := hK.lt; omega (by rw [h92]; decide)).mono ?_)
    rintro e w' ⟨ws3, bl3, rfl, hfr3, hb3, hs3⟩
    refine ⟨_, _, _, rfl, hw.set (i := 4) rfl hfr3 hb3, rfl, ?_⟩
    refine L_mem [(b0, row 23 (dg zd)), (b1, row 58 (dg (kp key))), (b2, row 23 (dg (shaP key))), (b21, row 73 (hL ws2.l bl2 (((kx 54 (kp key)).length + l2.length : Nat) : Int))), (b22, row 73 (hL ws3.l bl3 ((([] : List Int).length + (kx 92 (kp key)).length : Nat) : Int))), (g8, row 58 (dg (kx 54 (kp key)) ++ r8)), (b6, row 23 (dg DD)), (g9, row 58 (dg (kx 92 (kp key)) ++ r9))] rfl ?_
    refine L_nil ?_
    change J _ _ _ _
    refine J_seq ?_
    refine J_region ?_
    refine L_v rfl rfl rfl (V_move rfl rfl) ?_
    refine L_v rfl rfl rfl (V_sliceArr rfl rfl Tryd.underlying23 sz5m) ?_
    refine L_call rfl rfl rfl rfl tx29m (fun w1 hw => (write_w b22 ws3 bl3 (kx 92 (kp key)) DD (some ⟨b6, 0, none⟩) 32 32 w1 (by have h9 := hw.at (i := 4) rfl; rw [show ([] : List Int).length + (kx 92 (kp key)).length = (kx 92 (kp key)).length by simp] at h9; exact h9) hs3 (SlB.of_mem' hw (i := 6) rfl hDD 32) (apB (hw.ne (i := 6) (j := 4) rfl rfl (by decide))) hDb (Nat.le_refl 32) (TabK.later hw (by simp) hK) fun e => by have h1 : w.heap.size ≤ b22 := hw.ge rfl (i := 4) rfl; have h2 := hK.lt; omega (by rw [h92, hDD]; decide)).mono ?_)
    rintro e w' ⟨ws4, bl4, rfl, hfr4, hb4, hs4⟩
    refine ⟨_, _, _, rfl, hw.set (i := 4) rfl hfr4 hb4, rfl, ?_⟩
    refine L_mem [(b0, row 23 (dg zd)), (b1, row 58 (dg (kp key))), (b2, row 23 (dg (shaP key))), (b21, row 73 (hL ws2.l bl2 (((kx 54 (kp key)).length + l2.length : Nat) : Int))), (b22, row 73 (hL ws4.l bl4 (((kx 92 (kp key)).length + DD.length : Nat) : Int))), (g8, row 58 (dg (kx 54 (kp key)) ++ r8)), (b6, row 23 (dg DD)), (g9, row 58 (dg (kx 92 (kp key)) ++ r9))] rfl ?_
    refine L_nil ?_
    change J _ _ _ _
    refine J_seq ?_
    refine J_region ?_
    refine L_v rfl rfl rfl (V_move rfl rfl) ?_
    refine L_callV rfl rfl rfl rfl rfl rfl tx30m (fun w1 hw => hsum_w b22 ws4 bl4 (kx 92 (kp key) ++ DD) w1 (by rw [List.length_append]; exact hw.at (i := 4) rfl) hs4 (TabK.later hw (by simp) hK) (by rw [List.length_append, h92, hDD]; decide)) ?_
    refine L_storeW 0 rfl rfl rfl rfl rfl rfl (szd sz23m (by first | (rw [dg_length]; exact shaP_len _) | (rw [dg_length]; exact macP_len _ _) | (rw [dg_length, dg_length, hDD]; rfl) | (rw [dg_length, dg_length, shaP_len]; rfl) | (rw [dg_length, dg_length, macP_len]; rfl) | rfl | (rw [dg_length]; assumption))) (dg_one _) (by first | (rw [dg_length]; exact shaP_len _) | (rw [dg_length]; exact macP_len _ _) | (rw [dg_length, dg_length, hDD]; rfl) | (rw [dg_length, dg_length, shaP_len]; rfl) | (rw [dg_length, dg_length, macP_len]; rfl) | rfl | (rw [dg_length]; assumption)) ?_
    refine L_nil ?_
    change J _ _ _ _
    refine J_ret ?_
    change Kret _ _ _ Exit.ret _
    refine ret1 rfl rfl (RV_c 0 rfl rfl Tryd.underlying23 rfl (szd sz23m (by first | (rw [dg_length]; exact shaP_len _) | (rw [dg_length]; exact macP_len _ _) | (rw [dg_length, dg_length, hDD]; rfl) | (rw [dg_length, dg_length, shaP_len]; rfl) | (rw [dg_length, dg_length, macP_len]; rfl) | rfl | (rw [dg_length]; assumption)))) ?_
    exact fun w' h => ⟨by rw [hDe]; rfl, h.fr⟩
  ·
    first | (have h1 := h1; rw [decide_eq_true_eq] at h1) | (have h1 := h1; rw [decide_eq_false_iff_not] at h1) | skip
    refine J_skip ?_
    change J _ _ _ _
    refine J_seq ?_
    refine J_region ?_
    refine L_v rfl rfl rfl (V_sliceArr rfl rfl Tryd.underlying58 sz5m) ?_
    refine L_v rfl rfl rfl (V_move rfl rfl) ?_
    refine L_copyD 1 (dg (kp key)) rfl rfl rfl rfl rfl Tryd.underlying26 sz5m rfl (fun w1 hw => SlB.later hw rfl hu) (by rw [dg_length]; decide) (by show dg (key.take 64) ++ (dg (List.replicate 64 0)).drop (0 + min key.length 64) = _; rw [← kp_copy (key := key) (by omega), dg_append]; simp [dg, List.map_take, List.map_drop]) ?_
    refine L_nil ?_
    change J _ _ _ _
    refine J_seq ?_
    refine J_region ?_
    refine L_v rfl rfl rfl (V_makeFunc rfl rfl rfl) ?_
    refine L_v rfl rfl rfl (V_assign rfl rfl) ?_
    refine L_nil ?_
    change J _ _ _ _
    refine J_seq ?_
    refine J_region ?_
    refine L_call rfl rfl rfl rfl tx28m (fun w1 hw => (hnew_w w1).mono ?_)
    rintro e w' ⟨b21, rfl, hfr21, hsz21, hb21⟩
    refine ⟨_, _, _, rfl, hw.add hfr21 hb21 hsz21, rfl, ?_⟩
    refine L_mem [(b0, row 23 (dg zd)), (b1, row 58 (dg (kp key))), (b21, row 73 (hL R0.l (List.replicate 64 0) 0))] rfl ?_
    refine L_call rfl rfl rfl rfl tx28m (fun w1 hw => (hnew_w w1).mono ?_)
    rintro e w' ⟨b22, rfl, hfr22, hsz22, hb22⟩
    refine ⟨_, _, _, rfl, hw.add hfr22 hb22 hsz22, rfl, ?_⟩
    refine L_mem [(b0, row 23 (dg zd)), (b1, row 58 (dg (kp key))), (b21, row 73 (hL R0.l (List.replicate 64 0) 0)), (b22, row 73 (hL R0.l (List.replicate 64 0) 0))] rfl ?_
    refine L_v rfl rfl rfl (V_assign rfl rfl) ?_
    refine L_v rfl rfl rfl (V_assign rfl rfl) ?_
    refine L_nil ?_
    change J _ _ _ _
    refine J_seq ?_
    refine J_region ?_
    refine L_v rfl rfl rfl (V_move rfl rfl) ?_
    refine L_v rfl rfl rfl (V_move rfl rfl) ?_
    refine L_callB rfl rfl rfl rfl rfl rfl tx35m (fun w1 hw => by1_w 54 b1 (kp key) w1 (hw.at (i := 1) rfl) (kp_len key)) (fun g8 r8 c8 hl8 hc8 hr8 => ?_)
    refine L_call rfl rfl rfl rfl tx29m (fun w1 hw => (write_w b21 R0 (List.replicate 64 0) [] (kx 54 (kp key)) (some ⟨g8, 0, none⟩) 64 c8 w1 (hw.at (i := 2) rfl) hs0 (SlB.of_own hw (i := 4) (l := kx 54 (kp key)) (r := r8) rfl h54 c8) (apB (hw.ne (i := 4) (j := 2) rfl rfl (by decide))) (kx_byt _ _) hc8 (TabK.later hw (by simp) hK) fun e => by have h1 : w.heap.size ≤ b21 := hw.ge rfl (i := 2) rfl; have h2 := hK.lt; omega (by rw [h54]; decide)).mono ?_)
    rintro e w' ⟨ws1, bl1, rfl, hfr1, hb1, hs1⟩
    refine ⟨_, _, _, rfl, hw.set (i := 2) rfl hfr1 hb1, rfl, ?_⟩
    refine L_mem [(b0, row 23 (dg zd)), (b1, row 58 (dg (kp key))), (b21, row 73 (hL ws1.l bl1 ((([] : List Int).length + (kx 54 (kp key)).length : Nat) : Int))), (b22, row 73 (hL R0.l (List.replicate 64 0) 0)), (g8, row 58 (dg (kx 54 (kp key)) ++ r8))] rfl ?_
    refine L_nil ?_
    change J _ _ _ _
    refine J_seq ?_
    refine J_region ?_
    refine L_v rfl rfl rfl (V_move rfl rfl) ?_
    refine L_v rfl rfl rfl (V_move rfl rfl) ?_
    refine L_call rfl rfl rfl rfl tx29m (fun w1 hw => (write_w b21 ws1 bl1 (kx 54 (kp key)) l2 a2 n2 c2 w1 (by have h9 := hw.at (i := 2) rfl; rw [show ([] : List Int).length + (kx 54 (kp key)).length = (kx 54 (kp key)).length by simp] at h9; exact h9) hs1 (SlB.later hw rfl hu2) (apF hu2 (hw.ge rfl (i := 2) rfl)) hby2 hcn2 (TabK.later hw (by simp) hK) fun e => by have h1 : w.heap.size ≤ b21 := hw.ge rfl (i := 2) rfl; have h2 := hK.lt; omega (by rw [h54]; omega)).mono ?_)
    rintro e w' ⟨ws2, bl2, rfl, hfr2, hb2, hs2⟩
    refine ⟨_, _, _, rfl, hw.set (i := 2) rfl hfr2 hb2, rfl, ?_⟩
    refine L_mem [(b0, row 23 (dg zd)), (b1, row 58 (dg (kp key))), (b21, row 73 (hL ws2.l bl2 (((kx 54 (kp key)).length + l2.length : Nat) : Int))), (b22, row 73 (hL R0.l (List.replicate 64 0) 0)), (g8, row 58 (dg (kx 54 (kp key)) ++ r8))] rfl ?_
    refine L_nil ?_
    change J _ _ _ _
    refine J_seq ?_
    refine J_region ?_
    refine L_v rfl rfl rfl (V_move rfl rfl) ?_
    refine L_callV rfl rfl rfl rfl rfl rfl tx30m (fun w1 hw => hsum_b b21 ws2 bl2 (kx 54 (kp key) ++ l2) w1 (by rw [List.length_append]; exact hw.at (i := 2) rfl) hs2 (TabK.later hw (by simp) hK) (by rw [List.length_append, h54]; omega) hDe.symm) ?_
    refine L_alloc rfl rfl rfl rfl z23m (fun b5 => ?_)
    refine L_storeW 5 rfl rfl rfl rfl rfl rfl (szd sz23m (by first | (rw [dg_length]; exact shaP_len _) | (rw [dg_length]; exact macP_len _ _) | (rw [dg_length, dg_length, hDD]; rfl) | (rw [dg_length, dg_length, shaP_len]; rfl) | (rw [dg_length, dg_length, macP_len]; rfl) | rfl | (rw [dg_length]; assumption))) (dg_one _) (by first | (rw [dg_length]; exact shaP_len _) | (rw [dg_length]; exact macP_len _ _) | (rw [dg_length, dg_length, hDD]; rfl) | (rw [dg_length, dg_length, shaP_len]; rfl) | (rw [dg_length, dg_length, macP_len]; rfl) | rfl | (rw [dg_length]; assumption)) ?_
    refine L_nil ?_
    change J _ _ _ _
    refine J_seq ?_
    refine J_region ?_
    refine L_v rfl rfl rfl (V_move rfl rfl) ?_
    refine L_v rfl rfl rfl (V_move rfl rfl) ?_
    refine L_callB rfl rfl rfl rfl rfl rfl tx35m (fun w1 hw => by1_w 92 b1 (kp key) w1 (hw.at (i := 1) rfl) (kp_len key)) (fun g9 r9 c9 hl9 hc9 hr9 => ?_)
    refine L_call rfl rfl rfl rfl tx29m (fun w1 hw => (write_w b22 R0 (List.replicate 64 0) [] (kx 92 (kp key)) (some ⟨g9, 0, none⟩) 64 c9 w1 (hw.at (i := 3) rfl) hs0 (SlB.of_own hw (i := 6) (l := kx 92 (kp key)) (r := r9) rfl h92 c9) (apB (hw.ne (i := 6) (j := 3) rfl rfl (by decide))) (kx_byt _ _) hc9 (TabK.later hw (by simp) hK) fun e => by have h1 : w.heap.size ≤ b22 := hw.ge rfl (i := 3) rfl; have h2 := hK.lt; omega (by rw [h92]; decide)).mono ?_)
    rintro e w' ⟨ws3, bl3, rfl, hfr3, hb3, hs3⟩
    refine ⟨_, _, _, rfl, hw.set (i := 3) rfl hfr3 hb3, rfl, ?_⟩
    refine L_mem [(b0, row 23 (dg zd)), (b1, row 58 (dg (kp key))), (b21, row 73 (hL ws2.l bl2 (((kx 54 (kp key)).length + l2.length : Nat) : Int))), (b22, row 73 (hL ws3.l bl3 ((([] : List Int).length + (kx 92 (kp key)).length : Nat) : Int))), (g8, row 58 (dg (kx 54 (kp key)) ++ r8)), (b5, row 23 (dg DD)), (g9, row 58 (dg (kx 92 (kp key)) ++ r9))] rfl ?_
    refine L_nil ?_
    change J _ _ _ _
    refine J_seq ?_
    refine J_region ?_
    refine L_v rfl rfl rfl (V_move rfl rfl) ?_
    refine L_v rfl rfl rfl (V_sliceArr rfl rfl Tryd.underlying23 sz5m) ?_
    refine L_call rfl rfl rfl rfl tx29m (fun w1 hw => (write_w b22 ws3 bl3 (kx 92 (kp key)) DD (some ⟨b5, 0, none⟩) 32 32 w1 (by have h9 := hw.at (i := 3) rfl; rw [show ([] : List Int).length + (kx 92 (kp key)).length = (kx 92 (kp key)).length by simp] at h9; exact h9) hs3 (SlB.of_mem' hw (i := 5) rfl hDD 32) (apB (hw.ne (i := 5) (j := 3) rfl rfl (by decide))) hDb (Nat.le_refl 32) (TabK.later hw (by simp) hK) fun e => by have h1 : w.heap.size ≤ b22 := hw.ge rfl (i := 3) rfl; have h2 := hK.lt; omega (by rw [h92, hDD]; decide)).mono ?_)
    rintro e w' ⟨ws4, bl4, rfl, hfr4, hb4, hs4⟩
    refine ⟨_, _, _, rfl, hw.set (i := 3) rfl hfr4 hb4, rfl, ?_⟩
    refine L_mem [(b0, row 23 (dg zd)), (b1, row 58 (dg (kp key))), (b21, row 73 (hL ws2.l bl2 (((kx 54 (kp key)).length + l2.length : Nat) : Int))), (b22, row 73 (hL ws4.l bl4 (((kx 92 (kp key)).length + DD.length : Nat) : Int))), (g8, row 58 (dg (kx 54 (kp key)) ++ r8)), (b5, row 23 (dg DD)), (g9, row 58 (dg (kx 92 (kp key)) ++ r9))] rfl ?_
    refine L_nil ?_
    change J _ _ _ _
    refine J_seq ?_
    refine J_region ?_
    refine L_v rfl rfl rfl (V_move rfl rfl) ?_
    refine L_callV rfl rfl rfl rfl rfl rfl tx30m (fun w1 hw => hsum_w b22 ws4 bl4 (kx 92 (kp key) ++ DD) w1 (by rw [List.length_append]; exact hw.at (i := 3) rfl) hs4 (TabK.later hw (by simp) hK) (by rw [List.length_append, h92, hDD]; decide)) ?_
    refine L_storeW 0 rfl rfl rfl rfl rfl rfl (szd sz23m (by first | (rw [dg_length]; exact shaP_len _) | (rw [dg_length]; exact macP_len _ _) | (rw [dg_length, dg_length, hDD]; rfl) | (rw [dg_length, dg_length, shaP_len]; rfl) | (rw [dg_length, dg_length, macP_len]; rfl) | rfl | (rw [dg_length]; assumption))) (dg_one _) (by first | (rw [dg_length]; exact shaP_len _) | (rw [dg_length]; exact macP_len _ _) | (rw [dg_length, dg_length, hDD]; rfl) | (rw [dg_length, dg_length, shaP_len]; rfl) | (rw [dg_length, dg_length, macP_len]; rfl) | rfl | (rw [dg_length]; assumption)) ?_
    refine L_nil ?_
    change J _ _ _ _
    refine J_ret ?_
    change Kret _ _ _ Exit.ret _
    refine ret1 rfl rfl (RV_c 0 rfl rfl Tryd.underlying23 rfl (szd sz23m (by first | (rw [dg_length]; exact shaP_len _) | (rw [dg_length]; exact macP_len _ _) | (rw [dg_length, dg_length, hDD]; rfl) | (rw [dg_length, dg_length, shaP_len]; rfl) | (rw [dg_length, dg_length, macP_len]; rfl) | rfl | (rw [dg_length]; assumption)))) ?_
    exact fun w' h => ⟨by rw [hDe]; rfl, h.fr⟩

end Go.Proofs.YtbckeoidnpfbnaaDoor
