/- Part 7 of the texts that the law leans on. -/
import Derived.Test.YtfdmjjhgdbpfeaaDoorCBa5
import Derived.Test.YtfdmjjhgdbpfeaaDoorCBa2
import Derived.Test.YtfdmjjhgdbpfeaaDoorCBa6
import Derived.Test.YtfdmjjhgdbpfeaaDoorCBa1
import Derived.Test.YtfdmjjhgdbpfeaaDoorProg
/- What layer 3 and its reference make of a key and bytes. -/
set_option linter.unusedVariables false
set_option linter.unusedSimpArgs false
set_option maxRecDepth 100000
namespace Go.Proofs.YtfdmjjhgdbpfeaaDoor
open Go.Sx
theorem hsum_b (b : Nat) (ws : R8) (bl m : List Int) (w : World) (hb : w.heap[b]? = some (row 157 (hL ws.l bl (m.length : Int)))) (hs : HS m ws bl) (hK : TabK KT 1 w) (hsz : m.length ≤ 1099511627000) {d : List Int} (h : shaP m = d) : Calls Tryd.prog 61 #[.pointer (some ⟨b, 0, none⟩)] w fun e w' => e = .returned (.agg (dg d).toArray) ∧ Fr [] w w' := by
  subst h
  exact hsum_w b ws bl m w hb hs hK hsz
theorem sz5m : (Tryd.prog.info? 5).map (·.size) = some 1 := by kernel_rfl
theorem sz26m : (Tryd.prog.info? 26).map (·.size) = some 32 := by kernel_rfl
theorem sz141m : (Tryd.prog.info? 141).map (·.size) = some 64 := by kernel_rfl
theorem tx29m : Txt Tryd.prog 29 := txt_of Tryd.func29 rfl (by kernel_rfl)
theorem tx59m : Txt Tryd.prog 59 := txt_of Tryd.func59 rfl (by kernel_rfl)
theorem tx60m : Txt Tryd.prog 60 := txt_of Tryd.func60 rfl (by kernel_rfl)
theorem tx61m : Txt Tryd.prog 61 := txt_of Tryd.func61 rfl (by kernel_rfl)
theorem tx71m : Txt Tryd.prog 71 := txt_of Tryd.func71 rfl (by kernel_rfl)
theorem tx72m : Txt Tryd.prog 72 := txt_of Tryd.func72 rfl (by kernel_rfl)
theorem tx73m : Txt Tryd.prog 73 := txt_of Tryd.func73 rfl (by kernel_rfl)
theorem z26m : (Tryd.prog.info? 26).bind (·.zero) = some (.agg (dg zd).toArray) := by kernel_rfl
theorem z141m : (Tryd.prog.info? 141).bind (·.zero) = some (.agg (dg (List.replicate 64 0)).toArray) := by kernel_rfl

theorem xf_w (x p : Int) (b : Nat) (w : World) (hb : w.heap[b]? = some (row 5 [.int .u8 p])) :
    Calls Tryd.prog 73 #[.int .u8 x, .pointer (some ⟨b, 0, none⟩)] w fun e w' => e = .returned (.int .u8 (xb p x)) ∧ Fr [] w w' := by
  refine calls_of (args := [.int .u8 x, .pointer (some ⟨b, 0, none⟩)]) ([]) ([]) ([]) Tryd.func73 rfl rfl (okW0 _ _ _ _) ?_
  refine J_seq ?_
  refine J_region ?_
  refine L_v rfl rfl rfl (V_assign rfl rfl) ?_
  refine L_nil ?_
  change J _ _ _ _
  refine J_seq ?_
  refine J_region ?_
  refine L_v rfl rfl rfl (V_move rfl rfl) ?_
  refine L_v rfl rfl rfl (V_loadF rfl rfl Tryd.underlying5 rfl (fun w hw => OkW.later hw rfl hb) rfl) ?_
  refine L_v rfl rfl rfl (V_xor rfl rfl rfl rfl) ?_
  refine L_v rfl rfl rfl (V_assign rfl rfl) ?_
  refine L_nil ?_
  change J _ _ _ _
  refine J_ret ?_
  change Kret _ _ _ Exit.ret _
  refine ret1 rfl rfl (RV_t rfl) ?_
  exact fun w' h => ⟨rfl, h.fr⟩

theorem trn_w (k : List Int) (p : Int) (b : Nat) (w : World) (hb : w.heap[b]? = some (row 5 [.int .u8 p])) (hk : k.length = 64) :
    Calls Tryd.prog 72 #[.agg (dg k).toArray, .func (.func 73) #[] #[.pointer (some ⟨b, 0, none⟩)]] w fun e w' => RetB 141 w (kx p k) 64 id e w' := by
  refine calls_of (args := [.agg (dg k).toArray, .func (.func 73) #[] #[.pointer (some ⟨b, 0, none⟩)]]) ([]) ([]) ([]) Tryd.func72 rfl rfl (okW0 _ _ _ _) ?_
  refine J_seq ?_
  refine J_region ?_
  refine L_box rfl rfl rfl rfl rfl (fun b0 => ?_)
  refine L_v rfl rfl rfl (V_assign rfl rfl) ?_
  refine L_nil ?_
  change J _ _ _ _
  refine J_seq ?_
  refine J_seq ?_
  refine J_region ?_
  refine L_v rfl rfl rfl (V_loadW 0 rfl rfl rfl Tryd.underlying141 rfl (szd sz141m (by first | (rw [dg_length]; assumption) | rfl))) ?_
  refine L_v rfl rfl rfl (V_move rfl rfl) ?_
  refine L_nil ?_
  change J _ _ _ _
  refine J_block ?_
  refine J_loop (X := Nat) (fun i => { env := [(1, .func (.func 73) #[] #[.pointer (some ⟨b, 0, none⟩)]), (2, .pointer (some ⟨b0, 0, none⟩)), (7, .agg (dg k).toArray), (8, .int .i64 (i : Int))], mem := [(b0, row 141 (dg ((kx p k).take i ++ k.drop i)))] }) (fun i => i ≤ 64) (fun i => 64 - i) 0 (Nat.zero_le _) ⟨⟨rfl, rfl, rfl, rfl, trivial⟩, (by show List.Sublist [(b0, row 141 (dg (List.take 0 (kx p k) ++ List.drop 0 k)))] _; rw [List.take_zero, List.drop_zero, List.nil_append]; exact List.Sublist.refl _), fun f hf => hf, rfl⟩ ?_
  rintro i hi
  refine J_seq ?_
  refine J_region ?_
  refine L_v rfl rfl rfl (V_lss rfl rfl rfl (by first | exact decide_eq_true (by omega) | exact decide_eq_false (by omega) | rfl)) ?_
  refine L_nil ?_
  change J _ _ _ _
  refine J_seq ?_
  refine J_cond rfl (fun h1 => ?_) (fun h1 => ?_)
  ·
    first | (have h1 := h1; rw [decide_eq_true_eq] at h1) | (have h1 := h1; rw [decide_eq_false_iff_not] at h1) | skip
    refine J_skip ?_
    change J _ _ _ _
    refine J_seq ?_
    refine J_block ?_
    refine J_seq ?_
    refine J_region ?_
    refine L_v rfl rfl rfl (V_move rfl rfl) ?_
    refine L_v rfl rfl rfl (V_indexA rfl rfl rfl Tryd.underlying141 sz5m Tryd.underlying5 rfl (by omega) (by omega) (by rw [Nat.mul_one, Int.toNat_natCast]; exact dgD (by omega))) ?_
    refine L_v rfl rfl rfl (V_assign rfl rfl) ?_
    refine L_v rfl rfl rfl (V_assign rfl rfl) ?_
    refine L_nil ?_
    change J _ _ _ _
    refine J_region ?_
    refine L_v rfl rfl rfl (V_move rfl rfl) ?_
    refine L_v rfl rfl rfl (V_move rfl rfl) ?_
    refine L_v rfl rfl rfl (V_move rfl rfl) ?_
    refine L_callV rfl rfl rfl rfl rfl rfl tx73m (fun w1 hw => xf_w (k.getD i 0) p b w1 (OkW.later hw rfl hb)) ?_
    refine L_v rfl rfl rfl (V_indexArr (off' := i) rfl rfl rfl Tryd.underlying141 sz5m (by omega) (by omega) (show 0 + ((i : Nat) : Int).toNat * 1 = i by omega)) ?_
    refine L_store1 0 rfl rfl rfl rfl rfl rfl rfl sz5m (by rw [dg_length, List.length_append, List.length_take, List.length_drop, kx_len]; omega) (by rw [dg_set, kx_set (by omega)]) ?_
    refine L_nil ?_
    change J _ _ _ _
    refine J_region ?_
    refine L_v rfl rfl rfl (V_add rfl rfl rfl (by first | exact Go.IntWalk.i64_in _ (by omega) | rfl)) ?_
    refine L_v rfl rfl rfl (V_move rfl rfl) ?_
    refine L_nil ?_
    exact ⟨i + 1, by omega, by omega, ⟨rfl, rfl, rfl, rfl, trivial⟩, List.Sublist.refl _, fun f hf => hf, rfl⟩
  ·
    first | (have h1 := h1; rw [decide_eq_true_eq] at h1) | (have h1 := h1; rw [decide_eq_false_iff_not] at h1) | skip
    obtain rfl : i = 64 := by omega
    have he : (kx p k).take 64 ++ k.drop 64 = kx p k := by rw [List.take_of_length_le (by rw [kx_len]; omega), List.drop_eq_nil_of_le (by omega), List.append_nil]
    rw [he]
    refine J_exit ?_
    change J _ _ _ _
    refine J_seq ?_
    refine J_region ?_
    refine L_v rfl rfl rfl (V_sliceArr rfl rfl Tryd.underlying141 sz5m) ?_
    refine L_v rfl rfl rfl (V_assign rfl rfl) ?_
    refine L_nil ?_
    change J _ _ _ _
    refine J_ret ?_
    change Kret _ _ _ Exit.ret _
    refine ret1 rfl rfl (RV_t rfl) ?_
    exact fun w' h => RetB.of h rfl 0 (r := []) (by show some _ = some _; rw [List.append_nil]) rfl (by rw [kx_len]; exact hk) (Nat.le_refl _) rfl

theorem by1_w (p : Int) (b : Nat) (k : List Int) (w : World) (hb : w.heap[b]? = some (row 141 (dg k))) (hk : k.length = 64) :
    Calls Tryd.prog 71 #[.int .u8 p, .pointer (some ⟨b, 0, none⟩)] w fun e w' => RetB 141 w (kx p k) 64 id e w' := by
  refine calls_of (args := [.int .u8 p, .pointer (some ⟨b, 0, none⟩)]) ([]) ([]) ([]) Tryd.func71 rfl rfl (okW0 _ _ _ _) ?_
  refine J_seq ?_
  refine J_region ?_
  refine L_box rfl rfl rfl rfl rfl (fun b0 => ?_)
  refine L_v rfl rfl rfl (V_assign rfl rfl) ?_
  refine L_nil ?_
  change J _ _ _ _
  refine J_seq ?_
  refine J_region ?_
  refine L_v rfl rfl rfl (V_loadWF rfl rfl Tryd.underlying141 rfl (fun w hw => OkW.later hw rfl hb) (szd sz141m (by first | (rw [dg_length]; assumption) | rfl))) ?_
  refine L_v rfl rfl rfl (V_makeFunc rfl rfl rfl) ?_
  refine L_callB rfl rfl rfl rfl rfl rfl tx72m (fun w1 hw => trn_w k p b0 w1 (hw.at (i := 0) rfl) hk) (fun g1 r1 c1 hl1 hc1 hr1 => ?_)
  refine L_v rfl rfl rfl (V_assign rfl rfl) ?_
  refine L_nil ?_
  change J _ _ _ _
  refine J_ret ?_
  change Kret _ _ _ Exit.ret _
  refine ret1 rfl rfl (RV_t rfl) ?_
  exact fun w' h => RetB.of h rfl 1 rfl rfl (by rw [kx_len]; exact hk) hc1 hr1

set_option maxHeartbeats 2000000 in
theorem mac_w (key : List Int) (a : Option Addr) (n c : Nat) (l2 : List Int) (a2 : Option Addr) (n2 c2 : Nat) (w : World) (hu : SlB w (.slice a n c) key) (hby : Byt key) (hu2 : SlB w (.slice a2 n2 c2) l2) (hby2 : Byt l2) (hcn : n ≤ c) (hcn2 : n2 ≤ c2) (hK : TabK KT 1 w) (hsz : key.length ≤ 1099511626000) (hsz2 : l2.length ≤ 1099511626000) :
    Calls Tryd.prog 42 #[.slice a n c, .slice a2 n2 c2] w fun e w' => e = .returned (.agg (dg (macP key l2)).toArray) ∧ Fr [] w w' := by
  have hul := hu.size
  have hul2 := hu2.size
  have h54 : (kx 54 (kp key)).length = 64 := by rw [kx_len, kp_len]
  have h92 : (kx 92 (kp key)).length = 64 := by rw [kx_len, kp_len]
  obtain ⟨DD, hDe⟩ : ∃ DD, DD = shaP (kx 54 (kp key) ++ l2) := ⟨_, rfl⟩
  have hDD : DD.length = 32 := by rw [hDe]; exact shaP_len _
  have hDb : Byt DD := by rw [hDe]; exact shaP_byt _
  refine calls_of (args := [.slice a n c, .slice a2 n2 c2]) ([]) ([]) ([]) Tryd.func42 rfl rfl (okW0 _ _ _ _) ?_
  refine J_seq ?_
  refine J_region ?_
  refine L_alloc rfl rfl rfl rfl z26m (fun b0 => ?_)
  refine L_nil ?_
  change J _ _ _ _
  refine J_seq ?_
  refine J_region ?_
  refine L_alloc rfl rfl rfl rfl z141m (fun b1 => ?_)
  refine L_nil ?_
  change J _ _ _ _
  refine J_seq ?_
  refine J_seq ?_
  refine J_region ?_
  refine L_v rfl rfl rfl (V_move rfl rfl) ?_
  refine L_v rfl rfl rfl (V_len rfl rfl Tryd.underlying57 rfl) ?_
  refine L_v rfl rfl rfl (V_gtr rfl rfl rfl (by first | exact decide_eq_true (by omega) | exact decide_eq_false (by omega) | rfl)) ?_
  refine L_nil ?_
  change J _ _ _ _
  refine J_cond rfl (fun h1 => ?_) (fun h1 => ?_)
  ·
    first | (have h1 := h1; rw [decide_eq_true_eq] at h1) | (have h1 := h1; rw [decide_eq_false_iff_not] at h1) | skip
    refine J_seq ?_
    refine J_region ?_
    refine L_v rfl rfl rfl (V_move rfl rfl) ?_
    refine L_callV rfl rfl rfl rfl rfl rfl tx29m (fun w1 hw => ssum_w key a n c w1 (SlB.later hw rfl hu) hby hcn (TabK.later hw (by simp) hK) (by omega)) ?_
    refine L_alloc rfl rfl rfl rfl z26m (fun b2 => ?_)
    refine L_storeW 2 rfl rfl rfl rfl rfl rfl (szd sz26m (by first | (rw [dg_length]; exact shaP_len _) | (rw [dg_length]; exact macP_len _ _) | (rw [dg_length, dg_length, hDD]; rfl) | (rw [dg_length, dg_length, shaP_len]; rfl) | (rw [dg_length, dg_length, macP_len]; rfl) | rfl | (rw [dg_length]; assumption))) (dg_one _) (by first | (rw [dg_length]; exact shaP_len _) | (rw [dg_length]; exact macP_len _ _) | (rw [dg_length, dg_length, hDD]; rfl) | (rw [dg_length, dg_length, shaP_len]; rfl) | (rw [dg_length, dg_length, macP_len]; rfl) | rfl | (rw [dg_length]; assumption)) ?_
    refine L_nil ?_
    change J _ _ _ _
    refine J_region ?_
    refine L_v rfl rfl rfl (V_sliceArr rfl rfl Tryd.underlying26 sz5m) ?_
    refine L_v rfl rfl rfl (V_assign rfl rfl) ?_
    refine L_nil ?_
    change J _ _ _ _
    refine J_seq ?_
    refine J_region ?_
    refine L_v rfl rfl rfl (V_sliceArr rfl rfl Tryd.underlying141 sz5m) ?_
    refine L_v rfl rfl rfl (V_move rfl rfl) ?_
    refine L_copyD 1 (dg (kp key)) rfl rfl rfl rfl rfl Tryd.underlying57 sz5m rfl (fun w1 hw => SlB.of_mem' hw (i := 2) rfl (shaP_len key) 32) (by rw [dg_length]; decide) (by show dg ((shaP key).take 64) ++ (dg (List.replicate 64 0)).drop (0 + min (shaP key).length 64) = _; rw [← kp_self (key := key) (by omega), ← kp_copy (by rw [shaP_len]; decide), dg_append]; simp [dg, List.map_take, List.map_drop]) ?_
    refine L_nil ?_
    change J _ _ _ _
    refine J_seq ?_
    refine J_region ?_
    refine L_v rfl rfl rfl (V_makeFunc rfl rfl rfl) ?_
    refine L_v rfl rfl rfl (V_assign rfl rfl) ?_
    refine L_nil ?_
    change J _ _ _ _
    refine J_seq ?_
    refine J_region ?_
    refine L_call rfl rfl rfl rfl tx59m (fun w1 hw => (hnew_w w1).mono ?_)
    rintro e w' ⟨b21, rfl, hfr21, hsz21, hb21⟩
    refine ⟨_, _, _, rfl, hw.add hfr21 hb21 hsz21, rfl, ?_⟩
    refine L_mem [(b0, row 26 (dg zd)), (b1, row 141 (dg (kp key))), (b2, row 26 (dg (shaP key))), (b21, row 157 (hL R0.l (List.replicate 64 0) 0))] rfl ?_
    refine L_call rfl rfl rfl rfl tx59m (fun w1 hw => (hnew_w w1).mono ?_)
    rintro e w' ⟨b22, rfl, hfr22, hsz22, hb22⟩
    refine ⟨_, _, _, rfl, hw.add hfr22 hb22 hsz22, rfl, ?_⟩
    refine L_mem [(b0, row 26 (dg zd)), (b1, row 141 (dg (kp key))), (b2, row 26 (dg (shaP key))), (b21, row 157 (hL R0.l (List.replicate 64 0) 0)), (b22, row 157 (hL R0.l (List.replicate 64 0) 0))] rfl ?_
    refine L_v rfl rfl rfl (V_assign rfl rfl) ?_
    refine L_v rfl rfl rfl (V_assign rfl rfl) ?_
    refine L_nil ?_
    change J _ _ _ _
    refine J_seq ?_
    refine J_region ?_
    refine L_v rfl rfl rfl (V_move rfl rfl) ?_
    refine L_v rfl rfl rfl (V_move rfl rfl) ?_
    refine L_callB rfl rfl rfl rfl rfl rfl tx71m (fun w1 hw => by1_w 54 b1 (kp key) w1 (hw.at (i := 1) rfl) (kp_len key)) (fun g8 r8 c8 hl8 hc8 hr8 => ?_)
    refine L_call rfl rfl rfl rfl tx60m (fun w1 hw => (write_w b21 R0 (List.replicate 64 0) [] (kx 54 (kp key)) (some ⟨g8, 0, none⟩) 64 c8 w1 (hw.at (i := 3) rfl) hs0 (SlB.of_own hw (i := 5) (l := kx 54 (kp key)) (r := r8) rfl h54 c8) (apB (hw.ne (i := 5) (j := 3) rfl rfl (by decide))) (kx_byt _ _) hc8 (TabK.later hw (by simp) hK) fun e => by have h1 : w.heap.size ≤ b21 := hw.ge rfl (i := 3) rfl; have h2 := hK.lt; omega (by rw [h54]; decide)).mono ?_)
    rintro e w' ⟨ws1, bl1, rfl, hfr1, hb1, hs1⟩
    refine ⟨_, _, _, rfl, hw.set (i := 3) rfl hfr1 hb1, rfl, ?_⟩
    refine L_mem [(b0, row 26 (dg zd)), (b1, row 141 (dg (kp key))), (b2, row 26 (dg (shaP key))), (b21, row 157 (hL ws1.l bl1 ((([] : List Int).length + (kx 54 (kp key)).length : Nat) : Int))), (b22, row 157 (hL R0.l (List.replicate 64 0) 0)), (g8, row 141 (dg (kx 54 (kp key)) ++ r8))] rfl ?_
    refine L_nil ?_
    change J _ _ _ _
    refine J_seq ?_
    refine J_region ?_
    refine L_v rfl rfl rfl (V_move rfl rfl) ?_
    refine L_v rfl rfl rfl (V_move rfl rfl) ?_
    refine L_call rfl rfl rfl rfl tx60m (fun w1 hw => (write_w b21 ws1 bl1 (kx 54 (kp key)) l2 a2 n2 c2 w1 (by have h9 := hw.at (i := 3) rfl; rw [show ([] : List Int).length + (kx 54 (kp key)).length = (kx 54 (kp key)).length by simp] at h9; exact h9) hs1 (SlB.later hw rfl hu2) (apF hu2 (hw.ge rfl (i := 3) rfl)) hby2 hcn2 (TabK.later hw (by simp) hK) fun e => by have h1 : w.heap.size ≤ b21 := hw.ge rfl (i := 3) rfl; have h2 := hK.lt; omega (by rw [h54]; omega)).mono ?_)
    rintro e w' ⟨ws2, bl2, rfl, hfr2, hb2, hs2⟩
    refine ⟨_, _, _, rfl, hw.set (i := 3) rfl hfr2 hb2, rfl, ?_⟩
    refine L_mem [(b0, row 26 (dg zd)), (b1, row 141 (dg (kp key))), (b2, row 26 (dg (shaP key))), (b21, row 157 (hL ws2.l bl2 (((kx 54 (kp key)).length + l2.length : Nat) : Int))), (b22, row 157 (hL R0.l (List.replicate 64 0) 0)), (g8, row 141 (dg (kx 54 (kp key)) ++ r8))] rfl ?_
    refine L_nil ?_
    change J _ _ _ _
    refine J_seq ?_
    refine J_region ?_
    refine L_v rfl rfl rfl (V_move rfl rfl) ?_
    refine L_callV rfl rfl rfl rfl rfl rfl tx61m (fun w1 hw => hsum_b b21 ws2 bl2 (kx 54 (kp key) ++ l2) w1 (by rw [List.length_append]; exact hw.at (i := 3) rfl) hs2 (TabK.later hw (by simp) hK) (by rw [List.length_append, h54]; omega) hDe.symm) ?_
    refine L_alloc rfl rfl rfl rfl z26m (fun b6 => ?_)
    refine L_storeW 6 rfl rfl rfl rfl rfl rfl (szd sz26m (by first | (rw [dg_length]; exact shaP_len _) | (rw [dg_length]; exact macP_len _ _) | (rw [dg_length, dg_length, hDD]; rfl) | (rw [dg_length, dg_length, shaP_len]; rfl) | (rw [dg_length, dg_length, macP_len]; rfl) | rfl | (rw [dg_length]; assumption))) (dg_one _) (by first | (rw [dg_length]; exact shaP_len _) | (rw [dg_length]; exact macP_len _ _) | (rw [dg_length, dg_length, hDD]; rfl) | (rw [dg_length, dg_length, shaP_len]; rfl) | (rw [dg_length, dg_length, macP_len]; rfl) | rfl | (rw [dg_length]; assumption)) ?_
    refine L_nil ?_
    change J _ _ _ _
    refine J_seq ?_
    refine J_region ?_
    refine L_v rfl rfl rfl (V_move rfl rfl) ?_
    refine L_v rfl rfl rfl (V_move rfl rfl) ?_
    refine L_callB rfl rfl rfl rfl rfl rfl tx71m (fun w1 hw => by1_w 92 b1 (kp key) w1 (hw.at (i := 1) rfl) (kp_len key)) (fun g9 r9 c9 hl9 hc9 hr9 => ?_)
    refine L_call rfl rfl rfl rfl tx60m (fun w1 hw => (write_w b22 R0 (List.replicate 64 0) [] (kx 92 (kp key)) (some ⟨g9, 0, none⟩) 64 c9 w1 (hw.at (i := 4) rfl) hs0 (SlB.of_own hw (i := 7) (l := kx 92 (kp key)) (r := r9) rfl h92 c9) (apB (hw.ne (i := 7) (j := 4) rfl rfl (by decide))) (kx_byt _ _) hc9 (TabK.later hw (by simp) hK) fun e => by have h1 : w.heap.size ≤ b22 := hw.ge rfl (i := 4) rfl; have h2 := hK.lt; omega (by rw [h92]; decide)).mono ?_)
    rintro e w' ⟨ws3, bl3, rfl, hfr3, hb3, hs3⟩
    refine ⟨_, _, _, rfl, hw.set (i := 4) rfl hfr3 hb3, rfl, ?_⟩
    refine L_mem [(b0, row 26 (dg zd)), (b1, row 141 (dg (kp key))), (b2, row 26 (dg (shaP key))), (b21, row 157 (hL ws2.l bl2 (((kx 54 (kp key)).length + l2.length : Nat) : Int))), (b22, row 157 (hL ws3.l bl3 ((([] : List Int).length + (kx 92 (kp key)).length : Nat) : Int))), (g8, row 141 (dg (kx 54 (kp key)) ++ r8)), (b6, row 26 (dg DD)), (g9, row 141 (dg (kx 92 (kp key)) ++ r9))] rfl ?_
    refine L_nil ?_
    change J _ _ _ _
    refine J_seq ?_
    refine J_region ?_
    refine L_v rfl rfl rfl (V_move rfl rfl) ?_
    refine L_v rfl rfl rfl (V_sliceArr rfl rfl Tryd.underlying26 sz5m) ?_
    refine L_call rfl rfl rfl rfl tx60m (fun w1 hw => (write_w b22 ws3 bl3 (kx 92 (kp key)) DD (some ⟨b6, 0, none⟩) 32 32 w1 (by have h9 := hw.at (i := 4) rfl; rw [show ([] : List Int).length + (kx 92 (kp key)).length = (kx 92 (kp key)).length by simp] at h9; exact h9) hs3 (SlB.of_mem' hw (i := 6) rfl hDD 32) (apB (hw.ne (i := 6) (j := 4) rfl rfl (by decide))) hDb (Nat.le_refl 32) (TabK.later hw (by simp) hK) fun e => by have h1 : w.heap.size ≤ b22 := hw.ge rfl (i := 4) rfl; have h2 := hK.lt; omega (by rw [h92, hDD]; decide)).mono ?_)
    rintro e w' ⟨ws4, bl4, rfl, hfr4, hb4, hs4⟩
    refine ⟨_, _, _, rfl, hw.set (i := 4) rfl hfr4 hb4, rfl, ?_⟩
    refine L_mem [(b0, row 26 (dg zd)), (b1, row 141 (dg (kp key))), (b2, row 26 (dg (shaP key))), (b21, row 157 (hL ws2.l bl2 (((kx 54 (kp key)).length + l2.length : Nat) : Int))), (b22, row 157 (hL ws4.l bl4 (((kx 92 (kp key)).length + DD.length : Nat) : Int))), (g8, row 141 (dg (kx 54 (kp key)) ++ r8)), (b6, row 26 (dg DD)), (g9, row 141 (dg (kx 92 (kp key)) ++ r9))] rfl ?_
    refine L_nil ?_
    change J _ _ _ _
    refine J_seq ?_
    refine J_region ?_
    refine L_v rfl rfl rfl (V_move rfl rfl) ?_
    refine L_callV rfl rfl rfl rfl rfl rfl tx61m (fun w1 hw => hsum_w b22 ws4 bl4 (kx 92 (kp key) ++ DD) w1 (by rw [List.length_append]; exact hw.at (i := 4) rfl) hs4 (TabK.later hw (by simp) hK) (by rw [List.length_append, h92, hDD]; decide)) ?_
    refine L_storeW 0 rfl rfl rfl rfl rfl rfl (szd sz26m (by first | (rw [dg_length]; exact shaP_len _) | (rw [dg_length]; exact macP_len _ _) | (rw [dg_length, dg_length, hDD]; rfl) | (rw [dg_length, dg_length, shaP_len]; rfl) | (rw [dg_length, dg_length, macP_len]; rfl) | rfl | (rw [dg_length]; assumption))) (dg_one _) (by first | (rw [dg_length]; exact shaP_len _) | (rw [dg_length]; exact macP_len _ _) | (rw [dg_length, dg_length, hDD]; rfl) | (rw [dg_length, dg_length, shaP_len]; rfl) | (rw [dg_length, dg_length, macP_len]; rfl) | rfl | (rw [dg_length]; assumption)) ?_
    refine L_nil ?_
    change J _ _ _ _
    refine J_ret ?_
    change Kret _ _ _ Exit.ret _
    refine ret1 rfl rfl (RV_c 0 rfl rfl Tryd.underlying26 rfl (szd sz26m (by first | (rw [dg_length]; exact shaP_len _) | (rw [dg_length]; exact macP_len _ _) | (rw [dg_length, dg_length, hDD]; rfl) | (rw [dg_length, dg_length, shaP_len]; rfl) | (rw [dg_length, dg_length, macP_len]; rfl) | rfl | (rw [dg_length]; assumption)))) ?_
    exact fun w' h => ⟨by rw [hDe]; rfl, h.fr⟩
  ·
    first | (have h1 := h1; rw [decide_eq_true_eq] at h1) | (have h1 := h1; rw [decide_eq_false_iff_not] at h1) | skip
    refine J_skip ?_
    change J _ _ _ _
    refine J_seq ?_
    refine J_region ?_
    refine L_v rfl rfl rfl (V_sliceArr rfl rfl Tryd.underlying141 sz5m) ?_
    refine L_v rfl rfl rfl (V_move rfl rfl) ?_
    refine L_copyD 1 (dg (kp key)) rfl rfl rfl rfl rfl Tryd.underlying57 sz5m rfl (fun w1 hw => SlB.later hw rfl hu) (by rw [dg_length]; decide) (by show dg (key.take 64) ++ (dg (List.replicate 64 0)).drop (0 + min key.length 64) = _; rw [← kp_copy (key := key) (by omega), dg_append]; simp [dg, List.map_take, List.map_drop]) ?_
    refine L_nil ?_
    change J _ _ _ _
    refine J_seq ?_
    refine J_region ?_
    refine L_v rfl rfl rfl (V_makeFunc rfl rfl rfl) ?_
    refine L_v rfl rfl rfl (V_assign rfl rfl) ?_
    refine L_nil ?_
    change J _ _ _ _
    refine J_seq ?_
    refine J_region ?_
    refine L_call rfl rfl rfl rfl tx59m (fun w1 hw => (hnew_w w1).mono ?_)
    rintro e w' ⟨b21, rfl, hfr21, hsz21, hb21⟩
    refine ⟨_, _, _, rfl, hw.add hfr21 hb21 hsz21, rfl, ?_⟩
    refine L_mem [(b0, row 26 (dg zd)), (b1, row 141 (dg (kp key))), (b21, row 157 (hL R0.l (List.replicate 64 0) 0))] rfl ?_
    refine L_call rfl rfl rfl rfl tx59m (fun w1 hw => (hnew_w w1).mono ?_)
    rintro e w' ⟨b22, rfl, hfr22, hsz22, hb22⟩
    refine ⟨_, _, _, rfl, hw.add hfr22 hb22 hsz22, rfl, ?_⟩
    refine L_mem [(b0, row 26 (dg zd)), (b1, row 141 (dg (kp key))), (b21, row 157 (hL R0.l (List.replicate 64 0) 0)), (b22, row 157 (hL R0.l (List.replicate 64 0) 0))] rfl ?_
    refine L_v rfl rfl rfl (V_assign rfl rfl) ?_
    refine L_v rfl rfl rfl (V_assign rfl rfl) ?_
    refine L_nil ?_
    change J _ _ _ _
    refine J_seq ?_
    refine J_region ?_
    refine L_v rfl rfl rfl (V_move rfl rfl) ?_
    refine L_v rfl rfl rfl (V_move rfl rfl) ?_
    refine L_callB rfl rfl rfl rfl rfl rfl tx71m (fun w1 hw => by1_w 54 b1 (kp key) w1 (hw.at (i := 1) rfl) (kp_len key)) (fun g8 r8 c8 hl8 hc8 hr8 => ?_)
    refine L_call rfl rfl rfl rfl tx60m (fun w1 hw => (write_w b21 R0 (List.replicate 64 0) [] (kx 54 (kp key)) (some ⟨g8, 0, none⟩) 64 c8 w1 (hw.at (i := 2) rfl) hs0 (SlB.of_own hw (i := 4) (l := kx 54 (kp key)) (r := r8) rfl h54 c8) (apB (hw.ne (i := 4) (j := 2) rfl rfl (by decide))) (kx_byt _ _) hc8 (TabK.later hw (by simp) hK) fun e => by have h1 : w.heap.size ≤ b21 := hw.ge rfl (i := 2) rfl; have h2 := hK.lt; omega (by rw [h54]; decide)).mono ?_)
    rintro e w' ⟨ws1, bl1, rfl, hfr1, hb1, hs1⟩
    refine ⟨_, _, _, rfl, hw.set (i := 2) rfl hfr1 hb1, rfl, ?_⟩
    refine L_mem [(b0, row 26 (dg zd)), (b1, row 141 (dg (kp key))), (b21, row 157 (hL ws1.l bl1 ((([] : List Int).length + (kx 54 (kp key)).length : Nat) : Int))), (b22, row 157 (hL R0.l (List.replicate 64 0) 0)), (g8, row 141 (dg (kx 54 (kp key)) ++ r8))] rfl ?_
    refine L_nil ?_
    change J _ _ _ _
    refine J_seq ?_
    refine J_region ?_
    refine L_v rfl rfl rfl (V_move rfl rfl) ?_
    refine L_v rfl rfl rfl (V_move rfl rfl) ?_
    refine L_call rfl rfl rfl rfl tx60m (fun w1 hw => (write_w b21 ws1 bl1 (kx 54 (kp key)) l2 a2 n2 c2 w1 (by have h9 := hw.at (i := 2) rfl; rw [show ([] : List Int).length + (kx 54 (kp key)).length = (kx 54 (kp key)).length by simp] at h9; exact h9) hs1 (SlB.later hw rfl hu2) (apF hu2 (hw.ge rfl (i := 2) rfl)) hby2 hcn2 (TabK.later hw (by simp) hK) fun e => by have h1 : w.heap.size ≤ b21 := hw.ge rfl (i := 2) rfl; have h2 := hK.lt; omega (by rw [h54]; omega)).mono ?_)
    rintro e w' ⟨ws2, bl2, rfl, hfr2, hb2, hs2⟩
    refine ⟨_, _, _, rfl, hw.set (i := 2) rfl hfr2 hb2, rfl, ?_⟩
    refine L_mem [(b0, row 26 (dg zd)), (b1, row 141 (dg (kp key))), (b21, row 157 (hL ws2.l bl2 (((kx 54 (kp key)).length + l2.length : Nat) : Int))), (b22, row 157 (hL R0.l (List.replicate 64 0) 0)), (g8, row 141 (dg (kx 54 (kp key)) ++ r8))] rfl ?_
    refine L_nil ?_
    change J _ _ _ _
    refine J_seq ?_
    refine J_region ?_
    refine L_v rfl rfl rfl (V_move rfl rfl) ?_
    refine L_callV rfl rfl rfl rfl rfl rfl tx61m (fun w1 hw => hsum_b b21 ws2 bl2 (kx 54 (kp key) ++ l2) w1 (by rw [List.length_append]; exact hw.at (i := 2) rfl) hs2 (TabK.later hw (by simp) hK) (by rw [List.length_append, h54]; omega) hDe.symm) ?_
    refine L_alloc rfl rfl rfl rfl z26m (fun b5 => ?_)
    refine L_storeW 5 rfl rfl rfl rfl rfl rfl (szd sz26m (by first | (rw [dg_length]; exact shaP_len _) | (rw [dg_length]; exact macP_len _ _) | (rw [dg_length, dg_length, hDD]; rfl) | (rw [dg_length, dg_length, shaP_len]; rfl) | (rw [dg_length, dg_length, macP_len]; rfl) | rfl | (rw [dg_length]; assumption))) (dg_one _) (by first | (rw [dg_length]; exact shaP_len _) | (rw [dg_length]; exact macP_len _ _) | (rw [dg_length, dg_length, hDD]; rfl) | (rw [dg_length, dg_length, shaP_len]; rfl) | (rw [dg_length, dg_length, macP_len]; rfl) | rfl | (rw [dg_length]; assumption)) ?_
    refine L_nil ?_
    change J _ _ _ _
    refine J_seq ?_
    refine J_region ?_
    refine L_v rfl rfl rfl (V_move rfl rfl) ?_
    refine L_v rfl rfl rfl (V_move rfl rfl) ?_
    refine L_callB rfl rfl rfl rfl rfl rfl tx71m (fun w1 hw => by1_w 92 b1 (kp key) w1 (hw.at (i := 1) rfl) (kp_len key)) (fun g9 r9 c9 hl9 hc9 hr9 => ?_)
    refine L_call rfl rfl rfl rfl tx60m (fun w1 hw => (write_w b22 R0 (List.replicate 64 0) [] (kx 92 (kp key)) (some ⟨g9, 0, none⟩) 64 c9 w1 (hw.at (i := 3) rfl) hs0 (SlB.of_own hw (i := 6) (l := kx 92 (kp key)) (r := r9) rfl h92 c9) (apB (hw.ne (i := 6) (j := 3) rfl rfl (by decide))) (kx_byt _ _) hc9 (TabK.later hw (by simp) hK) fun e => by have h1 : w.heap.size ≤ b22 := hw.ge rfl (i := 3) rfl; have h2 := hK.lt; omega (by rw [h92]; decide)).mono ?_)
    rintro e w' ⟨ws3, bl3, rfl, hfr3, hb3, hs3⟩
    refine ⟨_, _, _, rfl, hw.set (i := 3) rfl hfr3 hb3, rfl, ?_⟩
    refine L_mem [(b0, row 26 (dg zd)), (b1, row 141 (dg (kp key))), (b21, row 157 (hL ws2.l bl2 (((kx 54 (kp key)).length + l2.length : Nat) : Int))), (b22, row 157 (hL ws3.l bl3 ((([] : List Int).length + (kx 92 (kp key)).length : Nat) : Int))), (g8, row 141 (dg (kx 54 (kp key)) ++ r8)), (b5, row 26 (dg DD)), (g9, row 141 (dg (kx 92 (kp key)) ++ r9))] rfl ?_
    refine L_nil ?_
    change J _ _ _ _
    refine J_seq ?_
    refine J_region ?_
    refine L_v rfl rfl rfl (V_move rfl rfl) ?_
    refine L_v rfl rfl rfl (V_sliceArr rfl rfl Tryd.underlying26 sz5m) ?_
    refine L_call rfl rfl rfl rfl tx60m (fun w1 hw => (write_w b22 ws3 bl3 (kx 92 (kp key)) DD (some ⟨b5, 0, none⟩) 32 32 w1 (by have h9 := hw.at (i := 3) rfl; rw [show ([] : List Int).length + (kx 92 (kp key)).length = (kx 92 (kp key)).length by simp] at h9; exact h9) hs3 (SlB.of_mem' hw (i := 5) rfl hDD 32) (apB (hw.ne (i := 5) (j := 3) rfl rfl (by decide))) hDb (Nat.le_refl 32) (TabK.later hw (by simp) hK) fun e => by have h1 : w.heap.size ≤ b22 := hw.ge rfl (i := 3) rfl; have h2 := hK.lt; omega (by rw [h92, hDD]; decide)).mono ?_)
    rintro e w' ⟨ws4, bl4, rfl, hfr4, hb4, hs4⟩
    refine ⟨_, _, _, rfl, hw.set (i := 3) rfl hfr4 hb4, rfl, ?_⟩
    refine L_mem [(b0, row 26 (dg zd)), (b1, row 141 (dg (kp key))), (b21, row 157 (hL ws2.l bl2 (((kx 54 (kp key)).length + l2.length : Nat) : Int))), (b22, row 157 (hL ws4.l bl4 (((kx 92 (kp key)).length + DD.length : Nat) : Int))), (g8, row 141 (dg (kx 54 (kp key)) ++ r8)), (b5, row 26 (dg DD)), (g9, row 141 (dg (kx 92 (kp key)) ++ r9))] rfl ?_
    refine L_nil ?_
    change J _ _ _ _
    refine J_seq ?_
    refine J_region ?_
    refine L_v rfl rfl rfl (V_move rfl rfl) ?_
    refine L_callV rfl rfl rfl rfl rfl rfl tx61m (fun w1 hw => hsum_w b22 ws4 bl4 (kx 92 (kp key) ++ DD) w1 (by rw [List.length_append]; exact hw.at (i := 3) rfl) hs4 (TabK.later hw (by simp) hK) (by rw [List.length_append, h92, hDD]; decide)) ?_
    refine L_storeW 0 rfl rfl rfl rfl rfl rfl (szd sz26m (by first | (rw [dg_length]; exact shaP_len _) | (rw [dg_length]; exact macP_len _ _) | (rw [dg_length, dg_length, hDD]; rfl) | (rw [dg_length, dg_length, shaP_len]; rfl) | (rw [dg_length, dg_length, macP_len]; rfl) | rfl | (rw [dg_length]; assumption))) (dg_one _) (by first | (rw [dg_length]; exact shaP_len _) | (rw [dg_length]; exact macP_len _ _) | (rw [dg_length, dg_length, hDD]; rfl) | (rw [dg_length, dg_length, shaP_len]; rfl) | (rw [dg_length, dg_length, macP_len]; rfl) | rfl | (rw [dg_length]; assumption)) ?_
    refine L_nil ?_
    change J _ _ _ _
    refine J_ret ?_
    change Kret _ _ _ Exit.ret _
    refine ret1 rfl rfl (RV_c 0 rfl rfl Tryd.underlying26 rfl (szd sz26m (by first | (rw [dg_length]; exact shaP_len _) | (rw [dg_length]; exact macP_len _ _) | (rw [dg_length, dg_length, hDD]; rfl) | (rw [dg_length, dg_length, shaP_len]; rfl) | (rw [dg_length, dg_length, macP_len]; rfl) | rfl | (rw [dg_length]; assumption)))) ?_
    exact fun w' h => ⟨by rw [hDe]; rfl, h.fr⟩

end Go.Proofs.YtfdmjjhgdbpfeaaDoor

/- What the reference of layer 3 makes of a key and bytes; two digests. -/
set_option linter.unusedVariables false
set_option linter.unusedSimpArgs false
set_option maxRecDepth 100000
namespace Go.Proofs.YtfdmjjhgdbpfeaaDoor
open Go.Sx
theorem rsum_b (L : List Int) (a : Option Addr) (n c : Nat) (w : World) (hu : SlB w (.slice a n c) L) (hby : Byt L) (hK : TabK KT 0 w) (hsz : L.length ≤ 1099511627000) {d : List Int} (h : shaP L = d) : Calls Tryd.prog 52 #[.slice a n c] w fun e w' => e = .returned (.agg (dg d).toArray) ∧ Fr [] w w' := by
  subst h
  exact rsum_w L a n c w hu hby hK hsz
theorem sz5n : (Tryd.prog.info? 5).map (·.size) = some 1 := by kernel_rfl
theorem sz26n : (Tryd.prog.info? 26).map (·.size) = some 32 := by kernel_rfl
theorem tx52n : Txt Tryd.prog 52 := txt_of Tryd.func52 rfl (by kernel_rfl)
theorem bz5n : (Tryd.prog.info? 5).map (fun i => (i.zero, i.size)) = some (some (.int .u8 0), 1) := by kernel_rfl
theorem z26n : (Tryd.prog.info? 26).bind (·.zero) = some (.agg (dg zd).toArray) := by kernel_rfl
theorem z141n : (Tryd.prog.info? 141).bind (·.zero) = some (.agg (dg (List.replicate 64 0)).toArray) := by kernel_rfl

set_option maxHeartbeats 1000000 in
theorem rmac_w (key : List Int) (a : Option Addr) (n c : Nat) (l2 : List Int) (a2 : Option Addr) (n2 c2 : Nat) (w : World) (hu : SlB w (.slice a n c) key) (hby : Byt key) (hu2 : SlB w (.slice a2 n2 c2) l2) (hby2 : Byt l2) (hR : TabK KT 0 w) (hsz : key.length ≤ 1099511626000) (hsz2 : l2.length ≤ 1099511626000) :
    Calls Tryd.prog 76 #[.slice a n c, .slice a2 n2 c2] w fun e w' => e = .returned (.agg (dg (macP key l2)).toArray) ∧ Fr [] w w' := by
  have hul := hu.size
  have hul2 := hu2.size
  have h54 : (kx 54 (kp key)).length = 64 := by rw [kx_len, kp_len]
  have h92 : (kx 92 (kp key)).length = 64 := by rw [kx_len, kp_len]
  obtain ⟨DD, hDe⟩ : ∃ DD, DD = shaP (kx 54 (kp key) ++ l2) := ⟨_, rfl⟩
  have hDD : DD.length = 32 := by rw [hDe]; exact shaP_len _
  have hDb : Byt DD := by rw [hDe]; exact shaP_byt _
  have hkl := kp_len key
  have hkz : (List.replicate 64 (0 : Int)).length = 64 := rfl
  refine calls_of (args := [.slice a n c, .slice a2 n2 c2]) ([]) ([]) ([]) Tryd.func76 rfl rfl (okW0 _ _ _ _) ?_
  refine J_seq ?_
  refine J_region ?_
  refine L_alloc rfl rfl rfl rfl z26n (fun b0 => ?_)
  refine L_nil ?_
  change J _ _ _ _
  refine J_seq ?_
  refine J_region ?_
  refine L_alloc rfl rfl rfl rfl z141n (fun b1 => ?_)
  refine L_nil ?_
  change J _ _ _ _
  refine J_seq ?_
  refine J_seq ?_
  refine J_region ?_
  refine L_v rfl rfl rfl (V_move rfl rfl) ?_
  refine L_v rfl rfl rfl (V_len rfl rfl Tryd.underlying57 rfl) ?_
  refine L_v rfl rfl rfl (V_gtr rfl rfl rfl (by first | exact decide_eq_true (by omega) | exact decide_eq_false (by omega) | rfl)) ?_
  refine L_nil ?_
  change J _ _ _ _
  refine J_cond rfl (fun h1 => ?_) (fun h1 => ?_)
  ·
    first | (have h1 := h1; rw [decide_eq_true_eq] at h1) | (have h1 := h1; rw [decide_eq_false_iff_not] at h1) | skip
    have hkk0 : kk key = (shaP key) := by unfold kk; rw [if_pos (by omega)]
    have hl0 : (shaP key).length = 32 := shaP_len key
    refine J_seq ?_
    refine J_region ?_
    refine L_v rfl rfl rfl (V_move rfl rfl) ?_
    refine L_callV rfl rfl rfl rfl rfl rfl tx52n (fun w1 hw => rsum_w key a n c w1 (SlB.later hw rfl hu) hby (TabK.later hw (by simp) hR) (by omega)) ?_
    refine L_alloc rfl rfl rfl rfl z26n (fun b2 => ?_)
    refine L_storeW 2 rfl rfl rfl rfl rfl rfl (szd sz26n (by first | (rw [dg_length]; exact shaP_len _) | (rw [dg_length]; exact macP_len _ _) | (rw [dg_length, dg_length, hDD]; rfl) | (rw [dg_length, dg_length, shaP_len]; rfl) | (rw [dg_length, dg_length, macP_len]; rfl) | rfl | (rw [dg_length]; assumption))) (dg_one _) (by first | (rw [dg_length]; exact shaP_len _) | (rw [dg_length]; exact macP_len _ _) | (rw [dg_length, dg_length, hDD]; rfl) | (rw [dg_length, dg_length, shaP_len]; rfl) | (rw [dg_length, dg_length, macP_len]; rfl) | rfl | (rw [dg_length]; assumption)) ?_
    refine L_nil ?_
    change J _ _ _ _
    refine J_region ?_
    refine L_v rfl rfl rfl (V_sliceArr rfl rfl Tryd.underlying26 sz5n) ?_
    refine L_v rfl rfl rfl (V_assign rfl rfl) ?_
    refine L_nil ?_
    change J _ _ _ _
    refine J_seq ?_
    refine J_seq ?_
    refine J_region ?_
    refine L_v rfl rfl rfl (V_assign rfl rfl) ?_
    refine L_nil ?_
    change J _ _ _ _
    refine J_block ?_
    refine J_loop (X := Nat) (fun i => { env := [(0, .slice (some ⟨b2, 0, none⟩) 32 32), (1, .slice a2 n2 c2), (4, .pointer (some ⟨b0, 0, none⟩)), (5, .pointer (some ⟨b1, 0, none⟩)), (7, .int .i64 (i : Int))], mem := [(b0, row 26 (dg zd)), (b1, row 141 (dg ((shaP key).take i ++ (List.replicate 64 (0 : Int)).drop i))), (b2, row 26 (dg (shaP key)))] }) (fun i => i ≤ 32) (fun i => 32 - i) 0 (Nat.zero_le _) ⟨⟨rfl, rfl, rfl, rfl, rfl, trivial⟩, (by show List.Sublist (_ :: (b1, row 141 (dg (List.take 0 (shaP key) ++ List.drop 0 (List.replicate 64 (0 : Int))))) :: _) _; rw [List.take_zero, List.drop_zero, List.nil_append]; exact List.Sublist.refl _), fun f hf => hf, rfl⟩ ?_
    rintro i hi
    refine J_seq ?_
    refine J_seq ?_
    refine J_region ?_
    refine L_v rfl rfl rfl (V_move rfl rfl) ?_
    refine L_v rfl rfl rfl (V_move rfl rfl) ?_
    refine L_v rfl rfl rfl (V_len rfl rfl Tryd.underlying57 rfl) ?_
    refine L_v rfl rfl rfl (V_lss rfl rfl rfl (by first | exact decide_eq_true (by omega) | exact decide_eq_false (by omega) | rfl)) ?_
    refine L_nil ?_
    change J _ _ _ _
    refine J_cond rfl (fun h2 => ?_) (fun h2 => ?_)
    ·
      first | (have h2 := h2; rw [decide_eq_true_eq] at h2) | (have h2 := h2; rw [decide_eq_false_iff_not] at h2) | skip
      have hgd : (shaP key).getD ((i : Nat) : Int).toNat 0 = (shaP key).getD i 0 := by rw [Int.toNat_natCast]
      refine J_skip ?_
      change J _ _ _ _
      refine J_seq ?_
      refine J_block ?_
      refine J_region ?_
      refine L_v rfl rfl rfl (V_move rfl rfl) ?_
      refine L_v rfl rfl rfl (V_move rfl rfl) ?_
      refine L_v rfl rfl rfl (V_move rfl rfl) ?_
      refine L_v rfl rfl rfl (V_indexB rfl rfl rfl Tryd.underlying57 sz5n (fun w hw => SlB.of_mem' hw (i := 2) rfl (shaP_len key) 32) (by omega) (by omega)) ?_
      refine L_v rfl rfl rfl (V_loadB rfl rfl Tryd.underlying5 rfl (fun w hw => SlB.of_mem' hw (i := 2) rfl (shaP_len key) 32) (by omega) hgd) ?_
      refine L_v rfl rfl rfl (V_indexArr (off' := i) rfl rfl rfl Tryd.underlying141 sz5n (by omega) (by omega) (show 0 + ((i : Nat) : Int).toNat * 1 = i by omega)) ?_
      refine L_store1 1 rfl rfl rfl rfl rfl rfl rfl sz5n (by rw [dg_length, List.length_append, List.length_take, List.length_drop]; omega) (by rw [dg_set, take_setK (by omega) (by omega)]) ?_
      refine L_nil ?_
      change J _ _ _ _
      refine J_region ?_
      refine L_v rfl rfl rfl (V_move rfl rfl) ?_
      refine L_v rfl rfl rfl (V_add rfl rfl rfl (by first | exact Go.IntWalk.i64_in _ (by omega) | rfl)) ?_
      refine L_v rfl rfl rfl (V_assign rfl rfl) ?_
      refine L_nil ?_
      exact ⟨i + 1, by omega, by omega, ⟨rfl, rfl, rfl, rfl, rfl, trivial⟩, List.Sublist.refl _, fun f hf => hf, rfl⟩
    ·
      first | (have h2 := h2; rw [decide_eq_true_eq] at h2) | (have h2 := h2; rw [decide_eq_false_iff_not] at h2) | skip
      obtain rfl : i = 32 := by omega
      have hkd := kp_done hkk0
      rw [hl0] at hkd
      rw [hkd]
      refine J_exit ?_
      change J _ _ _ _
      refine J_seq ?_
      refine J_region ?_
      refine L_v rfl rfl rfl (V_assign rfl rfl) ?_
      refine L_nil ?_
      change J _ _ _ _
      refine J_seq ?_
      refine J_region ?_
      refine L_v rfl rfl rfl (V_assign rfl rfl) ?_
      refine L_nil ?_
      change J _ _ _ _
      refine J_seq ?_
      refine J_seq ?_
      refine J_region ?_
      refine L_v rfl rfl rfl (V_assign rfl rfl) ?_
      refine L_nil ?_
      change J _ _ _ _
      refine J_block ?_
      refine J_loop (X := Nat × OwnR × OwnR) (fun x => { env := [(1, .slice a2 n2 c2), (4, .pointer (some ⟨b0, 0, none⟩)), (5, .pointer (some ⟨b1, 0, none⟩)), (8, ownV x.2.1 x.1), (9, ownV x.2.2 x.1), (10, .int .i64 (x.1 : Int))], mem := [(b0, row 26 (dg zd)), (b1, row 141 (dg (kp key)))] ++ (ownM 5 x.2.1 (dg (kx 54 ((kp key).take x.1))) ++ ownM 5 x.2.2 (dg (kx 92 ((kp key).take x.1)))) }) (fun x => x.1 ≤ 64 ∧ OwnC 1 x.2.1 x.1 (dg (kx 54 ((kp key).take x.1))) ∧ OwnC 1 x.2.2 x.1 (dg (kx 92 ((kp key).take x.1)))) (fun x => 64 - x.1) (0, none, none) ⟨Nat.zero_le _, ⟨rfl, rfl⟩, ⟨rfl, rfl⟩⟩ ⟨⟨rfl, rfl, rfl, rfl, rfl, rfl, trivial⟩, List.Sublist.cons_cons _ (List.Sublist.cons_cons _ (List.nil_sublist _)), fun f hf => hf, rfl⟩ ?_
      rintro ⟨i, q1, q2⟩ ⟨hi, hq1, hq2⟩
      simp only at hi hq1 hq2 ⊢
      refine J_seq ?_
      refine J_seq ?_
      refine J_region ?_
      refine L_v rfl rfl rfl (V_move rfl rfl) ?_
      refine L_v rfl rfl rfl (V_lss rfl rfl rfl (by first | exact decide_eq_true (by omega) | exact decide_eq_false (by omega) | rfl)) ?_
      refine L_nil ?_
      change J _ _ _ _
      refine J_cond rfl (fun h3 => ?_) (fun h3 => ?_)
      ·
        first | (have h3 := h3; rw [decide_eq_true_eq] at h3) | (have h3 := h3; rw [decide_eq_false_iff_not] at h3) | skip
        refine J_skip ?_
        change J _ _ _ _
        refine J_seq ?_
        refine J_block ?_
        refine J_seq ?_
        refine J_region ?_
        refine L_v rfl rfl rfl (V_move rfl rfl) ?_
        refine L_v rfl rfl rfl (V_move rfl rfl) ?_
        refine L_v rfl rfl rfl (V_indexArr (off' := i) rfl rfl rfl Tryd.underlying141 sz5n (by omega) (by omega) (show 0 + ((i : Nat) : Int).toNat * 1 = i by omega)) ?_
        refine L_v rfl rfl rfl (V_load1 1 rfl rfl rfl Tryd.underlying5 rfl (dgD (by omega))) ?_
        refine L_v rfl rfl rfl (V_xor (r := xb 54 ((kp key).getD i 0)) rfl rfl rfl rfl) ?_
        refine L_bs1 rfl rfl rfl rfl rfl Tryd.underlying57 bz5n rfl rfl (fun b3 => ?_)
        refine L_appN [(b0, row 26 (dg zd)), (b1, row 141 (dg (kp key)))] (ownM 5 q2 (dg (kx 92 ((kp key).take i))) ++ [(b3, row 5 [.int .u8 (xb 54 ((kp key).getD i 0))])]) q1 (dg (kx 54 ((kp key).take i))) (n' := i + 1) (ks' := dg (kx 54 ((kp key).take (i + 1)))) rfl rfl rfl rfl rfl Tryd.underlying57 elj (by show (_ ++ (_ ++ _)) ++ _ = _; simp only [List.append_assoc]) hq1 (fun w hw => src_bytes' Tryd.underlying57 (SlB.in hw (l := [xb 54 ((kp key).getD i 0)]) (r := []) (fz := (0, 0)) (List.mem_append_right _ (List.mem_singleton.2 rfl)) rfl 1) rfl) rfl (by first | (rw [kx_next (by omega), dg_append]; done) | (rw [kx_next (by omega), dg_append]; rfl)) (by omega) (by omega) (fun q1' hq1' => ?_)
        refine L_v rfl rfl rfl (V_assign rfl rfl) ?_
        refine L_nil ?_
        change J _ _ _ _
        refine J_region ?_
        refine L_v rfl rfl rfl (V_move rfl rfl) ?_
        refine L_v rfl rfl rfl (V_move rfl rfl) ?_
        refine L_v rfl rfl rfl (V_indexArr (off' := i) rfl rfl rfl Tryd.underlying141 sz5n (by omega) (by omega) (show 0 + ((i : Nat) : Int).toNat * 1 = i by omega)) ?_
        refine L_v rfl rfl rfl (V_load1 1 rfl rfl rfl Tryd.underlying5 rfl (dgD (by omega))) ?_
        refine L_v rfl rfl rfl (V_xor (r := xb 92 ((kp key).getD i 0)) rfl rfl rfl rfl) ?_
        refine L_bs1 rfl rfl rfl rfl rfl Tryd.underlying57 bz5n rfl rfl (fun b4 => ?_)
        refine L_appN ([(b0, row 26 (dg zd)), (b1, row 141 (dg (kp key)))] ++ ownM 5 q1' (dg (kx 54 ((kp key).take (i + 1))))) ([(b3, row 5 [.int .u8 (xb 54 ((kp key).getD i 0))])] ++ [(b4, row 5 [.int .u8 (xb 92 ((kp key).getD i 0))])]) q2 (dg (kx 92 ((kp key).take i))) (n' := i + 1) (ks' := dg (kx 92 ((kp key).take (i + 1)))) rfl rfl rfl rfl rfl Tryd.underlying57 elj (by show (_ ++ (_ ++ (_ ++ _))) ++ _ = _; simp only [List.append_assoc]) hq2 (fun w hw => src_bytes' Tryd.underlying57 (SlB.in hw (l := [xb 92 ((kp key).getD i 0)]) (r := []) (fz := (0, 0)) (List.mem_append_right _ (List.mem_singleton.2 rfl)) rfl 1) rfl) rfl (by first | (rw [kx_next (by omega), dg_append]; done) | (rw [kx_next (by omega), dg_append]; rfl)) (by omega) (by omega) (fun q2' hq2' => ?_)
        refine L_v rfl rfl rfl (V_assign rfl rfl) ?_
        refine L_nil ?_
        change J _ _ _ _
        refine J_region ?_
        refine L_v rfl rfl rfl (V_move rfl rfl) ?_
        refine L_v rfl rfl rfl (V_add rfl rfl rfl (by first | exact Go.IntWalk.i64_in _ (by omega) | rfl)) ?_
        refine L_v rfl rfl rfl (V_assign rfl rfl) ?_
        refine L_nil ?_
        exact ⟨(i + 1, q1', q2'), ⟨by show i + 1 ≤ 64; omega, hq1', hq2'⟩, by show 64 - (i + 1) < 64 - i; omega, ⟨rfl, rfl, rfl, rfl, rfl, rfl, trivial⟩, sub4 _ _ _ _, fun f hf => hf, rfl⟩
      ·
        first | (have h3 := h3; rw [decide_eq_true_eq] at h3) | (have h3 := h3; rw [decide_eq_false_iff_not] at h3) | skip
        obtain rfl : i = 64 := by omega
        have htk : (kp key).take 64 = kp key := List.take_of_length_le (by omega)
        rw [htk] at hq1 hq2 ⊢
        obtain ⟨g2, c2', r2, rfl, hk2, hc2, hr2⟩ := hq2.forms (by omega)
        refine J_exit ?_
        change J _ _ _ _
        refine J_seq ?_
        refine J_region ?_
        refine L_v rfl rfl rfl (V_move rfl rfl) ?_
        refine L_v rfl rfl rfl (V_move rfl rfl) ?_
        refine L_appN [(b0, row 26 (dg zd)), (b1, row 141 (dg (kp key)))] (ownM 5 (some (g2, c2', r2)) (dg (kx 92 (kp key)))) q1 (dg (kx 54 (kp key))) (n' := 64 + n2) (ks' := dg (kx 54 (kp key) ++ l2)) rfl rfl rfl rfl rfl Tryd.underlying57 elj rfl hq1 (fun w hw => src_bytes' Tryd.underlying57 (SlB.later hw rfl hu2) hul2) rfl (dg_append _ _).symm (by omega) (by omega) (fun q3 hq3 => ?_)
        obtain ⟨g3, c3, r3, rfl, hk3, hc3, hr3⟩ := hq3.forms (by omega)
        refine L_v rfl rfl rfl (V_assign rfl rfl) ?_
        refine L_nil ?_
        change J _ _ _ _
        refine J_seq ?_
        refine J_region ?_
        refine L_v rfl rfl rfl (V_move rfl rfl) ?_
        refine L_callV rfl rfl rfl rfl rfl rfl tx52n (fun w1 hw => rsum_b (kx 54 (kp key) ++ l2) (some ⟨g3, 0, none⟩) (64 + n2) c3 w1 (SlB.ofM hw (fun p hp => List.mem_append_right _ (List.mem_append_left _ hp)) hq3 rfl) ((kx_byt _ _).append hby2) (TabK.later hw (by simp) hR) (by rw [List.length_append, h54]; omega) hDe.symm) ?_
        refine L_alloc rfl rfl rfl rfl z26n (fun b4 => ?_)
        refine L_storeW 4 rfl rfl rfl rfl rfl rfl (szd sz26n (by first | (rw [dg_length]; exact shaP_len _) | (rw [dg_length]; exact macP_len _ _) | (rw [dg_length, dg_length, hDD]; rfl) | (rw [dg_length, dg_length, shaP_len]; rfl) | (rw [dg_length, dg_length, macP_len]; rfl) | rfl | (rw [dg_length]; assumption))) (dg_one _) (by first | (rw [dg_length]; exact shaP_len _) | (rw [dg_length]; exact macP_len _ _) | (rw [dg_length, dg_length, hDD]; rfl) | (rw [dg_length, dg_length, shaP_len]; rfl) | (rw [dg_length, dg_length, macP_len]; rfl) | rfl | (rw [dg_length]; assumption)) ?_
        refine L_nil ?_
        change J _ _ _ _
        refine J_seq ?_
        refine J_region ?_
        refine L_v rfl rfl rfl (V_move rfl rfl) ?_
        refine L_v rfl rfl rfl (V_sliceArr rfl rfl Tryd.underlying26 sz5n) ?_
        refine L_appN ([(b0, row 26 (dg zd)), (b1, row 141 (dg (kp key)))] ++ ownM 5 (some (g3, c3, r3)) (dg (kx 54 (kp key) ++ l2))) [(b4, row 26 (dg DD))] (some (g2, c2', r2)) (dg (kx 92 (kp key))) (n' := 64 + 32) (ks' := dg (kx 92 (kp key) ++ DD)) rfl rfl rfl rfl rfl Tryd.underlying57 elj rfl hq2 (fun w hw => src_bytes' Tryd.underlying57 (SlB.of_mem' hw (i := 4) rfl hDD 32) hDD) rfl (dg_append _ _).symm (by omega) (by omega) (fun q4 hq4 => ?_)
        refine L_v rfl rfl rfl (V_assign rfl rfl) ?_
        refine L_nil ?_
        change J _ _ _ _
        refine J_seq ?_
        refine J_region ?_
        refine L_v rfl rfl rfl (V_move rfl rfl) ?_
        refine L_callV rfl rfl rfl rfl rfl rfl tx52n (fun w1 hw => rsum_w (kx 92 (kp key) ++ DD) (oA q4) (64 + 32) (oC q4) w1 (SlB.ofM hw (fun p hp => List.mem_append_right _ (List.mem_append_left _ hp)) hq4 rfl) ((kx_byt _ _).append hDb) (TabK.later hw (by simp) hR) (by rw [List.length_append, h92, hDD]; decide)) ?_
        refine L_storeW 0 rfl rfl rfl rfl rfl rfl (szd sz26n (by first | (rw [dg_length]; exact shaP_len _) | (rw [dg_length]; exact macP_len _ _) | (rw [dg_length, dg_length, hDD]; rfl) | (rw [dg_length, dg_length, shaP_len]; rfl) | (rw [dg_length, dg_length, macP_len]; rfl) | rfl | (rw [dg_length]; assumption))) (dg_one _) (by first | (rw [dg_length]; exact shaP_len _) | (rw [dg_length]; exact macP_len _ _) | (rw [dg_length, dg_length, hDD]; rfl) | (rw [dg_length, dg_length, shaP_len]; rfl) | (rw [dg_length, dg_length, macP_len]; rfl) | rfl | (rw [dg_length]; assumption)) ?_
        refine L_nil ?_
        change J _ _ _ _
        refine J_ret ?_
        change Kret _ _ _ Exit.ret _
        refine ret1 rfl rfl (RV_c 0 rfl rfl Tryd.underlying26 rfl (szd sz26n (by first | (rw [dg_length]; exact shaP_len _) | (rw [dg_length]; exact macP_len _ _) | (rw [dg_length, dg_length, hDD]; rfl) | (rw [dg_length, dg_length, shaP_len]; rfl) | (rw [dg_length, dg_length, macP_len]; rfl) | rfl | (rw [dg_length]; assumption)))) ?_
        exact fun w' h => ⟨by rw [hDe]; rfl, h.fr⟩
  ·
    first | (have h1 := h1; rw [decide_eq_true_eq] at h1) | (have h1 := h1; rw [decide_eq_false_iff_not] at h1) | skip
    have hkk0 : kk key = key := by unfold kk; rw [if_neg (by omega)]
    have hl0 : key.length = n := hul
    refine J_skip ?_
    change J _ _ _ _
    refine J_seq ?_
    refine J_seq ?_
    refine J_region ?_
    refine L_v rfl rfl rfl (V_assign rfl rfl) ?_
    refine L_nil ?_
    change J _ _ _ _
    refine J_block ?_
    refine J_loop (X := Nat) (fun i => { env := [(0, .slice a n c), (1, .slice a2 n2 c2), (4, .pointer (some ⟨b0, 0, none⟩)), (5, .pointer (some ⟨b1, 0, none⟩)), (7, .int .i64 (i : Int))], mem := [(b0, row 26 (dg zd)), (b1, row 141 (dg (key.take i ++ (List.replicate 64 (0 : Int)).drop i)))] }) (fun i => i ≤ n) (fun i => n - i) 0 (Nat.zero_le _) ⟨⟨rfl, rfl, rfl, rfl, rfl, trivial⟩, (by show List.Sublist (_ :: (b1, row 141 (dg (List.take 0 key ++ List.drop 0 (List.replicate 64 (0 : Int))))) :: _) _; rw [List.take_zero, List.drop_zero, List.nil_append]; exact List.Sublist.refl _), fun f hf => hf, rfl⟩ ?_
    rintro i hi
    refine J_seq ?_
    refine J_seq ?_
    refine J_region ?_
    refine L_v rfl rfl rfl (V_move rfl rfl) ?_
    refine L_v rfl rfl rfl (V_move rfl rfl) ?_
    refine L_v rfl rfl rfl (V_len rfl rfl Tryd.underlying57 rfl) ?_
    refine L_v rfl rfl rfl (V_lss rfl rfl rfl (by first | exact decide_eq_true (by omega) | exact decide_eq_false (by omega) | rfl)) ?_
    refine L_nil ?_
    change J _ _ _ _
    refine J_cond rfl (fun h2 => ?_) (fun h2 => ?_)
    ·
      first | (have h2 := h2; rw [decide_eq_true_eq] at h2) | (have h2 := h2; rw [decide_eq_false_iff_not] at h2) | skip
      have hgd : key.getD ((i : Nat) : Int).toNat 0 = key.getD i 0 := by rw [Int.toNat_natCast]
      refine J_skip ?_
      change J _ _ _ _
      refine J_seq ?_
      refine J_block ?_
      refine J_region ?_
      refine L_v rfl rfl rfl (V_move rfl rfl) ?_
      refine L_v rfl rfl rfl (V_move rfl rfl) ?_
      refine L_v rfl rfl rfl (V_move rfl rfl) ?_
      refine L_v rfl rfl rfl (V_indexB rfl rfl rfl Tryd.underlying57 sz5n (fun w hw => SlB.later hw rfl hu) (by omega) (by omega)) ?_
      refine L_v rfl rfl rfl (V_loadB rfl rfl Tryd.underlying5 rfl (fun w hw => SlB.later hw rfl hu) (by omega) hgd) ?_
      refine L_v rfl rfl rfl (V_indexArr (off' := i) rfl rfl rfl Tryd.underlying141 sz5n (by omega) (by omega) (show 0 + ((i : Nat) : Int).toNat * 1 = i by omega)) ?_
      refine L_store1 1 rfl rfl rfl rfl rfl rfl rfl sz5n (by rw [dg_length, List.length_append, List.length_take, List.length_drop]; omega) (by rw [dg_set, take_setK (by omega) (by omega)]) ?_
      refine L_nil ?_
      change J _ _ _ _
      refine J_region ?_
      refine L_v rfl rfl rfl (V_move rfl rfl) ?_
      refine L_v rfl rfl rfl (V_add rfl rfl rfl (by first | exact Go.IntWalk.i64_in _ (by omega) | rfl)) ?_
      refine L_v rfl rfl rfl (V_assign rfl rfl) ?_
      refine L_nil ?_
      exact ⟨i + 1, by omega, by omega, ⟨rfl, rfl, rfl, rfl, rfl, trivial⟩, List.Sublist.refl _, fun f hf => hf, rfl⟩
    ·
      first | (have h2 := h2; rw [decide_eq_true_eq] at h2) | (have h2 := h2; rw [decide_eq_false_iff_not] at h2) | skip
      have hin : i = key.length := by omega
      have hkd := kp_done hkk0
      rw [← hin] at hkd
      rw [hkd]
      refine J_exit ?_
      change J _ _ _ _
      refine J_seq ?_
      refine J_region ?_
      refine L_v rfl rfl rfl (V_assign rfl rfl) ?_
      refine L_nil ?_
      change J _ _ _ _
      refine J_seq ?_
      refine J_region ?_
      refine L_v rfl rfl rfl (V_assign rfl rfl) ?_
      refine L_nil ?_
      change J _ _ _ _
      refine J_seq ?_
      refine J_seq ?_
      refine J_region ?_
      refine L_v rfl rfl rfl (V_assign rfl rfl) ?_
      refine L_nil ?_
      change J _ _ _ _
      refine J_block ?_
      refine J_loop (X := Nat × OwnR × OwnR) (fun x => { env := [(1, .slice a2 n2 c2), (4, .pointer (some ⟨b0, 0, none⟩)), (5, .pointer (some ⟨b1, 0, none⟩)), (8, ownV x.2.1 x.1), (9, ownV x.2.2 x.1), (10, .int .i64 (x.1 : Int))], mem := [(b0, row 26 (dg zd)), (b1, row 141 (dg (kp key)))] ++ (ownM 5 x.2.1 (dg (kx 54 ((kp key).take x.1))) ++ ownM 5 x.2.2 (dg (kx 92 ((kp key).take x.1)))) }) (fun x => x.1 ≤ 64 ∧ OwnC 1 x.2.1 x.1 (dg (kx 54 ((kp key).take x.1))) ∧ OwnC 1 x.2.2 x.1 (dg (kx 92 ((kp key).take x.1)))) (fun x => 64 - x.1) (0, none, none) ⟨Nat.zero_le _, ⟨rfl, rfl⟩, ⟨rfl, rfl⟩⟩ ⟨⟨rfl, rfl, rfl, rfl, rfl, rfl, trivial⟩, List.Sublist.cons_cons _ (List.Sublist.cons_cons _ (List.nil_sublist _)), fun f hf => hf, rfl⟩ ?_
      rintro ⟨i, q1, q2⟩ ⟨hi, hq1, hq2⟩
      simp only at hi hq1 hq2 ⊢
      refine J_seq ?_
      refine J_seq ?_
      refine J_region ?_
      refine L_v rfl rfl rfl (V_move rfl rfl) ?_
      refine L_v rfl rfl rfl (V_lss rfl rfl rfl (by first | exact decide_eq_true (by omega) | exact decide_eq_false (by omega) | rfl)) ?_
      refine L_nil ?_
      change J _ _ _ _
      refine J_cond rfl (fun h3 => ?_) (fun h3 => ?_)
      ·
        first | (have h3 := h3; rw [decide_eq_true_eq] at h3) | (have h3 := h3; rw [decide_eq_false_iff_not] at h3) | skip
        refine J_skip ?_
        change J _ _ _ _
        refine J_seq ?_
        refine J_block ?_
        refine J_seq ?_
        refine J_region ?_
        refine L_v rfl rfl rfl (V_move rfl rfl) ?_
        refine L_v rfl rfl rfl (V_move rfl rfl) ?_
        refine L_v rfl rfl rfl (V_indexArr (off' := i) rfl rfl rfl Tryd.underlying141 sz5n (by omega) (by omega) (show 0 + ((i : Nat) : Int).toNat * 1 = i by omega)) ?_
        refine L_v rfl rfl rfl (V_load1 1 rfl rfl rfl Tryd.underlying5 rfl (dgD (by omega))) ?_
        refine L_v rfl rfl rfl (V_xor (r := xb 54 ((kp key).getD i 0)) rfl rfl rfl rfl) ?_
        refine L_bs1 rfl rfl rfl rfl rfl Tryd.underlying57 bz5n rfl rfl (fun b2 => ?_)
        refine L_appN [(b0, row 26 (dg zd)), (b1, row 141 (dg (kp key)))] (ownM 5 q2 (dg (kx 92 ((kp key).take i))) ++ [(b2, row 5 [.int .u8 (xb 54 ((kp key).getD i 0))])]) q1 (dg (kx 54 ((kp key).take i))) (n' := i + 1) (ks' := dg (kx 54 ((kp key).take (i + 1)))) rfl rfl rfl rfl rfl Tryd.underlying57 elj (by show (_ ++ (_ ++ _)) ++ _ = _; simp only [List.append_assoc]) hq1 (fun w hw => src_bytes' Tryd.underlying57 (SlB.in hw (l := [xb 54 ((kp key).getD i 0)]) (r := []) (fz := (0, 0)) (List.mem_append_right _ (List.mem_singleton.2 rfl)) rfl 1) rfl) rfl (by first | (rw [kx_next (by omega), dg_append]; done) | (rw [kx_next (by omega), dg_append]; rfl)) (by omega) (by omega) (fun q1' hq1' => ?_)
        refine L_v rfl rfl rfl (V_assign rfl rfl) ?_
        refine L_nil ?_
        change J _ _ _ _
        refine J_region ?_
        refine L_v rfl rfl rfl (V_move rfl rfl) ?_
        refine L_v rfl rfl rfl (V_move rfl rfl) ?_
        refine L_v rfl rfl rfl (V_indexArr (off' := i) rfl rfl rfl Tryd.underlying141 sz5n (by omega) (by omega) (show 0 + ((i : Nat) : Int).toNat * 1 = i by omega)) ?_
        refine L_v rfl rfl rfl (V_load1 1 rfl rfl rfl Tryd.underlying5 rfl (dgD (by omega))) ?_
        refine L_v rfl rfl rfl (V_xor (r := xb 92 ((kp key).getD i 0)) rfl rfl rfl rfl) ?_
        refine L_bs1 rfl rfl rfl rfl rfl Tryd.underlying57 bz5n rfl rfl (fun b3 => ?_)
        refine L_appN ([(b0, row 26 (dg zd)), (b1, row 141 (dg (kp key)))] ++ ownM 5 q1' (dg (kx 54 ((kp key).take (i + 1))))) ([(b2, row 5 [.int .u8 (xb 54 ((kp key).getD i 0))])] ++ [(b3, row 5 [.int .u8 (xb 92 ((kp key).getD i 0))])]) q2 (dg (kx 92 ((kp key).take i))) (n' := i + 1) (ks' := dg (kx 92 ((kp key).take (i + 1)))) rfl rfl rfl rfl rfl Tryd.underlying57 elj (by show (_ ++ (_ ++ (_ ++ _))) ++ _ = _; simp only [List.append_assoc]) hq2 (fun w hw => src_bytes' Tryd.underlying57 (SlB.in hw (l := [xb 92 ((kp key).getD i 0)]) (r := []) (fz := (0, 0)) (List.mem_append_right _ (List.mem_singleton.2 rfl)) rfl 1) rfl) rfl (by first | (rw [kx_next (by omega), dg_append]; done) | (rw [kx_next (by omega), dg_append]; rfl)) (by omega) (by omega) (fun q2' hq2' => ?_)
        refine L_v rfl rfl rfl (V_assign rfl rfl) ?_
        refine L_nil ?_
        change J _ _ _ _
        refine J_region ?_
        refine L_v rfl rfl rfl (V_move rfl rfl) ?_
        refine L_v rfl rfl rfl (V_add rfl rfl rfl (by first | exact Go.IntWalk.i64_in _ (by omega) | rfl)) ?_
        refine L_v rfl rfl rfl (V_assign rfl rfl) ?_
        refine L_nil ?_
        exact ⟨(i + 1, q1', q2'), ⟨by show i + 1 ≤ 64; omega, hq1', hq2'⟩, by show 64 - (i + 1) < 64 - i; omega, ⟨rfl, rfl, rfl, rfl, rfl, rfl, trivial⟩, sub4 _ _ _ _, fun f hf => hf, rfl⟩
      ·
        first | (have h3 := h3; rw [decide_eq_true_eq] at h3) | (have h3 := h3; rw [decide_eq_false_iff_not] at h3) | skip
        obtain rfl : i = 64 := by omega
        have htk : (kp key).take 64 = kp key := List.take_of_length_le (by omega)
        rw [htk] at hq1 hq2 ⊢
        obtain ⟨g2, c2', r2, rfl, hk2, hc2, hr2⟩ := hq2.forms (by omega)
        refine J_exit ?_
        change J _ _ _ _
        refine J_seq ?_
        refine J_region ?_
        refine L_v rfl rfl rfl (V_move rfl rfl) ?_
        refine L_v rfl rfl rfl (V_move rfl rfl) ?_
        refine L_appN [(b0, row 26 (dg zd)), (b1, row 141 (dg (kp key)))] (ownM 5 (some (g2, c2', r2)) (dg (kx 92 (kp key)))) q1 (dg (kx 54 (kp key))) (n' := 64 + n2) (ks' := dg (kx 54 (kp key) ++ l2)) rfl rfl rfl rfl rfl Tryd.underlying57 elj rfl hq1 (fun w hw => src_bytes' Tryd.underlying57 (SlB.later hw rfl hu2) hul2) rfl (dg_append _ _).symm (by omega) (by omega) (fun q3 hq3 => ?_)
        obtain ⟨g3, c3, r3, rfl, hk3, hc3, hr3⟩ := hq3.forms (by omega)
        refine L_v rfl rfl rfl (V_assign rfl rfl) ?_
        refine L_nil ?_
        change J _ _ _ _
        refine J_seq ?_
        refine J_region ?_
        refine L_v rfl rfl rfl (V_move rfl rfl) ?_
        refine L_callV rfl rfl rfl rfl rfl rfl tx52n (fun w1 hw => rsum_b (kx 54 (kp key) ++ l2) (some ⟨g3, 0, none⟩) (64 + n2) c3 w1 (SlB.ofM hw (fun p hp => List.mem_append_right _ (List.mem_append_left _ hp)) hq3 rfl) ((kx_byt _ _).append hby2) (TabK.later hw (by simp) hR) (by rw [List.length_append, h54]; omega) hDe.symm) ?_
        refine L_alloc rfl rfl rfl rfl z26n (fun b4 => ?_)
        refine L_storeW 4 rfl rfl rfl rfl rfl rfl (szd sz26n (by first | (rw [dg_length]; exact shaP_len _) | (rw [dg_length]; exact macP_len _ _) | (rw [dg_length, dg_length, hDD]; rfl) | (rw [dg_length, dg_length, shaP_len]; rfl) | (rw [dg_length, dg_length, macP_len]; rfl) | rfl | (rw [dg_length]; assumption))) (dg_one _) (by first | (rw [dg_length]; exact shaP_len _) | (rw [dg_length]; exact macP_len _ _) | (rw [dg_length, dg_length, hDD]; rfl) | (rw [dg_length, dg_length, shaP_len]; rfl) | (rw [dg_length, dg_length, macP_len]; rfl) | rfl | (rw [dg_length]; assumption)) ?_
        refine L_nil ?_
        change J _ _ _ _
        refine J_seq ?_
        refine J_region ?_
        refine L_v rfl rfl rfl (V_move rfl rfl) ?_
        refine L_v rfl rfl rfl (V_sliceArr rfl rfl Tryd.underlying26 sz5n) ?_
        refine L_appN ([(b0, row 26 (dg zd)), (b1, row 141 (dg (kp key)))] ++ ownM 5 (some (g3, c3, r3)) (dg (kx 54 (kp key) ++ l2))) [(b4, row 26 (dg DD))] (some (g2, c2', r2)) (dg (kx 92 (kp key))) (n' := 64 + 32) (ks' := dg (kx 92 (kp key) ++ DD)) rfl rfl rfl rfl rfl Tryd.underlying57 elj rfl hq2 (fun w hw => src_bytes' Tryd.underlying57 (SlB.of_mem' hw (i := 4) rfl hDD 32) hDD) rfl (dg_append _ _).symm (by omega) (by omega) (fun q4 hq4 => ?_)
        refine L_v rfl rfl rfl (V_assign rfl rfl) ?_
        refine L_nil ?_
        change J _ _ _ _
        refine J_seq ?_
        refine J_region ?_
        refine L_v rfl rfl rfl (V_move rfl rfl) ?_
        refine L_callV rfl rfl rfl rfl rfl rfl tx52n (fun w1 hw => rsum_w (kx 92 (kp key) ++ DD) (oA q4) (64 + 32) (oC q4) w1 (SlB.ofM hw (fun p hp => List.mem_append_right _ (List.mem_append_left _ hp)) hq4 rfl) ((kx_byt _ _).append hDb) (TabK.later hw (by simp) hR) (by rw [List.length_append, h92, hDD]; decide)) ?_
        refine L_storeW 0 rfl rfl rfl rfl rfl rfl (szd sz26n (by first | (rw [dg_length]; exact shaP_len _) | (rw [dg_length]; exact macP_len _ _) | (rw [dg_length, dg_length, hDD]; rfl) | (rw [dg_length, dg_length, shaP_len]; rfl) | (rw [dg_length, dg_length, macP_len]; rfl) | rfl | (rw [dg_length]; assumption))) (dg_one _) (by first | (rw [dg_length]; exact shaP_len _) | (rw [dg_length]; exact macP_len _ _) | (rw [dg_length, dg_length, hDD]; rfl) | (rw [dg_length, dg_length, shaP_len]; rfl) | (rw [dg_length, dg_length, macP_len]; rfl) | rfl | (rw [dg_length]; assumption)) ?_
        refine L_nil ?_
        change J _ _ _ _
        refine J_ret ?_
        change Kret _ _ _ Exit.ret _
        refine ret1 rfl rfl (RV_c 0 rfl rfl Tryd.underlying26 rfl (szd sz26n (by first | (rw [dg_length]; exact shaP_len _) | (rw [dg_length]; exact macP_len _ _) | (rw [dg_length, dg_length, hDD]; rfl) | (rw [dg_length, dg_length, shaP_len]; rfl) | (rw [dg_length, dg_length, macP_len]; rfl) | rfl | (rw [dg_length]; assumption)))) ?_
        exact fun w' h => ⟨by rw [hDe]; rfl, h.fr⟩

theorem dsame_w (a b : List Int) (w : World) (ha : a.length = 32) (hb : b.length = 32) (hA : Byt a) (hB : Byt b) :
    Calls Tryd.prog 43 #[.agg (dg a).toArray, .agg (dg b).toArray] w fun e w' => e = .returned (.bool (decide (a = b))) ∧ Fr [] w w' := by
  refine calls_of (args := [.agg (dg a).toArray, .agg (dg b).toArray]) ([]) ([]) ([]) Tryd.func43 rfl rfl (okW0 _ _ _ _) ?_
  refine J_seq ?_
  refine J_region ?_
  refine L_box rfl rfl rfl rfl rfl (fun b0 => ?_)
  refine L_box rfl rfl rfl rfl rfl (fun b1 => ?_)
  refine L_v rfl rfl rfl (V_assign rfl rfl) ?_
  refine L_nil ?_
  change J _ _ _ _
  refine J_seq ?_
  refine J_region ?_
  refine L_v rfl rfl rfl (V_assign rfl rfl) ?_
  refine L_nil ?_
  change J _ _ _ _
  refine J_seq ?_
  refine J_seq ?_
  refine J_region ?_
  refine L_v rfl rfl rfl (V_move rfl rfl) ?_
  refine L_nil ?_
  change J _ _ _ _
  refine J_block ?_
  refine J_loop (X := Nat × Int) (fun x => { env := [(2, .pointer (some ⟨b0, 0, none⟩)), (3, .pointer (some ⟨b1, 0, none⟩)), (5, .int .u8 x.2), (7, .int .i64 (x.1 : Int))], mem := [(b0, row 26 (dg a)), (b1, row 26 (dg b))] }) (fun x => x.1 ≤ 32 ∧ (0 ≤ x.2 ∧ x.2 < 256) ∧ (x.2 = 0 ↔ a.take x.1 = b.take x.1)) (fun x => 32 - x.1) (0, 0) ⟨Nat.zero_le _, by decide, by simp⟩ ⟨⟨rfl, rfl, rfl, rfl, trivial⟩, List.Sublist.refl _, fun f hf => hf, rfl⟩ ?_
  rintro ⟨i, u⟩ ⟨hi, hu, huv⟩
  simp only at hi hu huv ⊢
  refine J_seq ?_
  refine J_region ?_
  refine L_v rfl rfl rfl (V_lss rfl rfl rfl (by first | exact decide_eq_true (by omega) | exact decide_eq_false (by omega) | rfl)) ?_
  refine L_nil ?_
  change J _ _ _ _
  refine J_seq ?_
  refine J_cond rfl (fun h1 => ?_) (fun h1 => ?_)
  ·
    first | (have h1 := h1; rw [decide_eq_true_eq] at h1) | (have h1 := h1; rw [decide_eq_false_iff_not] at h1) | skip
    refine J_skip ?_
    change J _ _ _ _
    refine J_seq ?_
    refine J_block ?_
    refine J_seq ?_
    refine J_region ?_
    refine L_v rfl rfl rfl (V_move rfl rfl) ?_
    refine L_v rfl rfl rfl (V_assign rfl rfl) ?_
    refine L_nil ?_
    change J _ _ _ _
    refine J_regionQ rfl (by kernel_rfl) ?_
    refine LQ_v rfl rfl rfl (V_move rfl rfl) ?_
    refine LQ_v rfl rfl rfl (V_move rfl rfl) ?_
    refine LQ_v rfl rfl rfl (V_indexArr (off' := i) rfl rfl rfl Tryd.underlying26 sz5n (by omega) (by omega) (show 0 + ((i : Nat) : Int).toNat * 1 = i by omega)) ?_
    refine LQ_v rfl rfl rfl (V_load1 0 rfl rfl rfl Tryd.underlying5 rfl (dgD (by omega))) ?_
    refine LQ_v rfl rfl rfl (V_move rfl rfl) ?_
    refine LQ_v rfl rfl rfl (V_indexArr (off' := i) rfl rfl rfl Tryd.underlying26 sz5n (by omega) (by omega) (show 0 + ((i : Nat) : Int).toNat * 1 = i by omega)) ?_
    refine LQ_v rfl rfl rfl (V_load1 1 rfl rfl rfl Tryd.underlying5 rfl (dgD (by omega))) ?_
    refine LQ_v rfl rfl rfl (V_xor rfl rfl rfl rfl) ?_
    refine LQ_v rfl rfl rfl (V_or rfl rfl rfl rfl) ?_
    refine LQ_v rfl rfl rfl (V_assign rfl rfl) ?_
    refine LQ_nil ?_
    change J _ _ _ _
    refine J_region ?_
    refine L_v rfl rfl rfl (V_add rfl rfl rfl (by first | exact Go.IntWalk.i64_in _ (by omega) | rfl)) ?_
    refine L_v rfl rfl rfl (V_move rfl rfl) ?_
    refine L_nil ?_
    have hx := byt_getD hA i
    have hy := byt_getD hB i
    exact ⟨(i + 1, bits2 .or .u8 u (bits2 .xor .u8 (a.getD i 0) (b.getD i 0))), ⟨by show i + 1 ≤ 32; omega, bits8 .or u (bits2 .xor .u8 (a.getD i 0) (b.getD i 0)), by show bits2 .or .u8 u (bits2 .xor .u8 (a.getD i 0) (b.getD i 0)) = 0 ↔ _; rw [or8 hu (bits8 _ _ _), xor8 hx hy, huv, take_two (by omega) (by omega)]⟩, by show 32 - (i + 1) < 32 - i; omega, ⟨rfl, rfl, rfl, rfl, trivial⟩, List.Sublist.refl _, fun f hf => hf, rfl⟩
  ·
    first | (have h1 := h1; rw [decide_eq_true_eq] at h1) | (have h1 := h1; rw [decide_eq_false_iff_not] at h1) | skip
    refine J_exit ?_
    change J _ _ _ _
    refine J_seq ?_
    refine J_region ?_
    refine L_v rfl rfl rfl (V_move rfl rfl) ?_
    refine L_v rfl rfl rfl (V_eql rfl rfl rfl (by first | exact decide_eq_true (by omega) | exact decide_eq_false (by omega) | rfl)) ?_
    refine L_v rfl rfl rfl (V_assign rfl rfl) ?_
    refine L_nil ?_
    change J _ _ _ _
    refine J_ret ?_
    change Kret _ _ _ Exit.ret _
    refine ret1 rfl rfl (RV_t rfl) ?_
    obtain rfl : i = 32 := by omega
    rw [List.take_of_length_le (by omega), List.take_of_length_le (by omega)] at huv
    exact fun w' h => ⟨congrArg (fun z => Ending.returned (.bool z)) (decide_eq_decide.2 huv), h.fr⟩

theorem same_b {x y : List Int} (hx : x.length = 32) (hy : y.length = 32) (bx : Byt x) (by_ : Byt y) (w : World) {b : Bool} (h : decide (x = y) = b) : Calls Tryd.prog 43 #[.agg (dg x).toArray, .agg (dg y).toArray] w fun e w' => e = .returned (.bool b) ∧ Fr [] w w' := by
  subst h
  exact dsame_w x y w hx hy bx by_

end Go.Proofs.YtfdmjjhgdbpfeaaDoor

/- The reference's sums and its check of a proof. -/
set_option linter.unusedVariables false
set_option linter.unusedSimpArgs false
set_option maxRecDepth 100000
namespace Go.Proofs.YtfdmjjhgdbpfeaaDoor
open Go.Sx
theorem app_dgM (m : List Int) (d : Dg) : dg m ++ dgM d = dg (m ++ l32 d) := (dg_append _ _).symm
theorem may_ref {p : Dg} {c : Cm} {x : Pf} (h : ¬ (c.1 = false ∧ c.2 ≠ dz)) : mayPf p c x ↔ (x.sib.length ≤ 256 ∧ ¬ (c.1 = true ∧ x.other = true)) ∧ (x.other = true ∨ x.path = dz ∧ x.val = dz) ∧ (x.other = true → x.path ≠ p ∧ (x.sib.length : Int) ≤ com (l32 p) (l32 x.path)) := by
  unfold mayPf
  cases hc : c.1 <;> cases ho : x.other <;> simp [hc] at h ⊢ <;> grind
theorem may_ref0 {p : Dg} {c : Cm} {x : Pf} (h : c.1 = false ∧ c.2 ≠ dz) : ¬ mayPf p c x := fun hm => by
  rcases hm.1.2 with h1 | h1
  · rw [h.1] at h1; cases h1
  · exact h.2 h1
theorem sz4pf : (Tryd.prog.info? 4).map (·.size) = some 1 := by kernel_rfl
theorem sz5pf : (Tryd.prog.info? 5).map (·.size) = some 1 := by kernel_rfl
theorem sz24pf : (Tryd.prog.info? 24).map (·.size) = some 1 := by kernel_rfl
theorem sz26pf : (Tryd.prog.info? 26).map (·.size) = some 32 := by kernel_rfl
theorem sz28pf : (Tryd.prog.info? 28).map (·.size) = some 66 := by kernel_rfl
theorem sz54pf : (Tryd.prog.info? 54).map (·.size) = some 33 := by kernel_rfl
theorem tx52pf : Txt Tryd.prog 52 := txt_of Tryd.func52 rfl (by kernel_rfl)
theorem tx53pf : Txt Tryd.prog 53 := txt_of Tryd.func53 rfl (by kernel_rfl)
theorem tx54pf : Txt Tryd.prog 54 := txt_of Tryd.func54 rfl (by kernel_rfl)
theorem tx55pf : Txt Tryd.prog 55 := txt_of Tryd.func55 rfl (by kernel_rfl)
theorem tx56pf : Txt Tryd.prog 56 := txt_of Tryd.func56 rfl (by kernel_rfl)
theorem tx83pf : Txt Tryd.prog 83 := txt_of Tryd.func83 rfl (by kernel_rfl)
theorem tx84pf : Txt Tryd.prog 84 := txt_of Tryd.func84 rfl (by kernel_rfl)
theorem tx85pf : Txt Tryd.prog 85 := txt_of Tryd.func85 rfl (by kernel_rfl)
theorem tx95pf : Txt Tryd.prog 95 := txt_of Tryd.func95 rfl (by kernel_rfl)
theorem z26pf : (Tryd.prog.info? 26).bind (·.zero) = some (.agg (dgM dz).toArray) := by kernel_rfl

theorem rwidth_w (w : World) :
    Calls Tryd.prog 53 #[.int .i64 32] w fun e w' => e = .returned (.bool true) ∧ Fr [] w w' := by
  refine calls_of (args := [.int .i64 32]) ([]) ([]) ([]) Tryd.func53 rfl rfl (okW0 _ _ _ _) ?_
  refine J_seq ?_
  refine J_region ?_
  refine L_v rfl rfl rfl (V_assign rfl rfl) ?_
  refine L_nil ?_
  change J _ _ _ _
  refine J_seq ?_
  refine J_region ?_
  refine L_v rfl rfl rfl (V_move rfl rfl) ?_
  refine L_v rfl rfl rfl (V_geq rfl rfl rfl rfl) ?_
  refine L_v rfl rfl rfl (V_move rfl rfl) ?_
  apply L_and 2 5 8
  · rfl
  · rfl
  · rfl
  · rfl
  · rfl
  · rfl
  · rfl
  · kernel_rfl
  · intro hb1 _ _ hk1
    refine L_wv rfl rfl rfl rfl rfl rfl (V_move rfl rfl) ?_
    refine L_wv rfl rfl rfl rfl rfl rfl (V_leq rfl rfl rfl rfl) ?_
    exact hk1 _ ⟨rfl, rfl, rfl, rfl, ext_cut 2 (by kernel_rfl) (by kernel_rfl)⟩
  refine L_v rfl rfl rfl (V_assign rfl rfl) ?_
  refine L_nil ?_
  change J _ _ _ _
  refine J_ret ?_
  change Kret _ _ _ Exit.ret _
  refine ret1 rfl rfl (RV_t rfl) ?_
  exact fun w' h => ⟨rfl, h.fr⟩

theorem rShort_w (L : List Int) (a : Option Addr) (n c : Nat) (w : World) (hu : SlB w (.slice a n c) L) (hby : Byt L) (hR : TabK KT 0 w) (hsz : L.length ≤ 1000) :
    Calls Tryd.prog 55 #[.int .i64 32, .slice a n c] w fun e w' => e = .returned (.tuple #[.agg (dgM (shD L)).toArray, .int .i64 0]) ∧ Fr [] w w' := by
  refine calls_of (args := [.int .i64 32, .slice a n c]) ([]) ([]) ([]) Tryd.func55 rfl rfl (okW0 _ _ _ _) ?_
  refine J_seq ?_
  refine J_region ?_
  refine L_alloc rfl rfl rfl rfl z26pf (fun b0 => ?_)
  refine L_v rfl rfl rfl (V_assign rfl rfl) ?_
  refine L_nil ?_
  change J _ _ _ _
  refine J_seq ?_
  refine J_region ?_
  refine L_alloc rfl rfl rfl rfl z26pf (fun b1 => ?_)
  refine L_nil ?_
  change J _ _ _ _
  refine J_seq ?_
  refine J_seq ?_
  refine J_region ?_
  refine L_v rfl rfl rfl (V_move rfl rfl) ?_
  refine L_callV rfl rfl rfl rfl rfl rfl tx53pf (fun w1 hw => rwidth_w w1) ?_
  refine L_v rfl rfl rfl (V_not rfl rfl rfl) ?_
  refine L_nil ?_
  change J _ _ _ _
  refine J_false rfl ?_
  refine J_skip ?_
  change J _ _ _ _
  refine J_seq ?_
  refine J_region ?_
  refine L_v rfl rfl rfl (V_move rfl rfl) ?_
  refine L_callV rfl rfl rfl rfl rfl rfl tx52pf (fun w1 hw => rsum_d L a n c w1 (SlB.later hw rfl hu) hby (TabK.later hw (by simp) hR) (by omega)) ?_
  refine L_alloc rfl rfl rfl rfl z26pf (fun b2 => ?_)
  refine L_storeW 2 rfl rfl rfl rfl rfl rfl (szd sz26pf (by kernel_rfl)) (all_one (by kernel_rfl)) (by kernel_rfl) ?_
  refine L_nil ?_
  change J _ _ _ _
  refine J_seq ?_
  refine J_seq ?_
  refine J_region ?_
  refine L_v rfl rfl rfl (V_assign rfl rfl) ?_
  refine L_nil ?_
  change J _ _ _ _
  refine J_block ?_
  refine J_loop (X := Nat) (fun i => { env := [(0, .int .i64 32), (4, .pointer (some ⟨b0, 0, none⟩)), (6, .pointer (some ⟨b1, 0, none⟩)), (7, .pointer (some ⟨b2, 0, none⟩)), (8, .int .i64 (i : Int))], mem := [(b0, row 26 (dgM dz)), (b1, row 26 (dg ((l32 (shD L)).take i ++ zd.drop i))), (b2, row 26 (dgM (shD L)))] }) (fun i => i ≤ 32) (fun i => 32 - i) 0 (Nat.zero_le _) ⟨⟨rfl, rfl, rfl, rfl, rfl, trivial⟩, List.Sublist.refl _, fun f hf => hf, rfl⟩ ?_
  rintro i hi
  refine J_seq ?_
  refine J_seq ?_
  refine J_region ?_
  refine L_v rfl rfl rfl (V_move rfl rfl) ?_
  refine L_v rfl rfl rfl (V_move rfl rfl) ?_
  refine L_v rfl rfl rfl (V_lss rfl rfl rfl (by first | exact decide_eq_true (by omega) | exact decide_eq_false (by omega) | rfl)) ?_
  refine L_nil ?_
  change J _ _ _ _
  refine J_cond rfl (fun h1 => ?_) (fun h1 => ?_)
  ·
    first | (have h1 := of_decide_eq_true h1) | (have h1 := of_decide_eq_false h1) | skip
    refine J_skip ?_
    change J _ _ _ _
    refine J_seq ?_
    refine J_block ?_
    refine J_region ?_
    refine L_v rfl rfl rfl (V_move rfl rfl) ?_
    refine L_v rfl rfl rfl (V_move rfl rfl) ?_
    refine L_v rfl rfl rfl (V_indexArr (off' := i) rfl rfl rfl Tryd.underlying26 sz5pf (by omega) (by omega) (show 0 + ((i : Nat) : Int).toNat * 1 = i by omega)) ?_
    refine L_v rfl rfl rfl (V_load1 2 rfl rfl rfl Tryd.underlying5 rfl (dgD (by rw [l32_len]; omega))) ?_
    refine L_v rfl rfl rfl (V_indexArr (off' := i) rfl rfl rfl Tryd.underlying26 sz5pf (by omega) (by omega) (show 0 + ((i : Nat) : Int).toNat * 1 = i by omega)) ?_
    refine L_store1 1 rfl rfl rfl rfl rfl rfl rfl sz5pf (by rw [dg_length, List.length_append, List.length_take, List.length_drop, l32_len, zd_length]; omega) (by rw [dg_set, take_setK (by rw [l32_len]; omega) (by rw [zd_length]; omega)]) ?_
    refine L_nil ?_
    change J _ _ _ _
    refine J_region ?_
    refine L_v rfl rfl rfl (V_move rfl rfl) ?_
    refine L_v rfl rfl rfl (V_add rfl rfl rfl (by first | exact Go.IntWalk.i64_in _ (by omega) | rfl)) ?_
    refine L_v rfl rfl rfl (V_assign rfl rfl) ?_
    refine L_nil ?_
    exact ⟨i + 1, by show i + 1 ≤ 32; omega, by show 32 - (i + 1) < 32 - i; omega, ⟨rfl, rfl, rfl, rfl, rfl, trivial⟩, List.Sublist.refl _, fun f hf => hf, rfl⟩
  ·
    first | (have h1 := of_decide_eq_true h1) | (have h1 := of_decide_eq_false h1) | skip
    obtain rfl : i = 32 := by omega
    refine J_conv [(b0, row 26 (dgM dz)), (b1, row 26 (dgM (shD L))), (b2, row 26 (dgM (shD L)))] [] (fun w1 hw => hw) ?_
    
    refine J_exit ?_
    change J _ _ _ _
    refine J_seq ?_
    refine J_region ?_
    refine L_v rfl rfl rfl (V_loadT 1 (vs := dgM (shD L)) rfl rfl rfl Tryd.underlying26 rfl sz26pf (by kernel_rfl) (by kernel_rfl)) ?_
    refine L_storeW 0 rfl rfl rfl rfl rfl rfl (szd sz26pf (by kernel_rfl)) (all_one (by kernel_rfl)) (by kernel_rfl) ?_
    refine L_v rfl rfl rfl (V_assign rfl rfl) ?_
    refine L_nil ?_
    change J _ _ _ _
    refine J_ret ?_
    change Kret _ _ _ Exit.ret _
    refine ret2 rfl rfl (RV_c 0 rfl rfl Tryd.underlying26 rfl (szd sz26pf (by kernel_rfl))) (RV_t rfl) ?_
    exact fun w' h => ⟨rfl, h.fr⟩

theorem nodeB_w (a b : Dg) (w : World) :
    Calls Tryd.prog 85 #[.agg (dgM a).toArray, .agg (dgM b).toArray] w fun e w' => RetB 5 w (nodeP a b) 65 id e w' := by
  refine calls_of (args := [.agg (dgM a).toArray, .agg (dgM b).toArray]) ([]) ([]) ([]) Tryd.func85 rfl rfl (okW0 _ _ _ _) ?_
  refine J_seq ?_
  refine J_region ?_
  refine L_box rfl rfl rfl rfl rfl (fun b0 => ?_)
  refine L_box rfl rfl rfl rfl rfl (fun b1 => ?_)
  refine L_v rfl rfl rfl (V_assign rfl rfl) ?_
  refine L_nil ?_
  change J _ _ _ _
  refine J_seq ?_
  refine J_region ?_
  refine L_buildSlice (vs := [(0, .int .u8 1)]) (l := dg [1]) rfl rfl rfl rfl rfl (bs1b 1) (fun b2 => ?_)
  refine L_v rfl rfl rfl (V_assign rfl rfl) ?_
  refine L_nil ?_
  change J _ _ _ _
  refine J_seq ?_
  refine J_region ?_
  refine L_v rfl rfl rfl (V_move rfl rfl) ?_
  refine L_v rfl rfl rfl (V_sliceArr rfl rfl Tryd.underlying26 sz5pf) ?_
  refine L_appO 2 (dg [1]) [] (n := 1) (m := 32) (n' := 1 + 32) (ks' := dg ([1] ++ l32 a)) rfl rfl rfl rfl rfl Tryd.underlying57 el5 rfl rfl rfl (Nat.le_refl _) (fun w1 hw => src_bytes' Tryd.underlying57 (SlB.of_mem' hw (i := 0) rfl rfl 32) rfl) rfl (app_dgM _ _) (by decide) (by decide) (fun g0 c0 r0 hc0 hr0 => ?_)
  refine L_v rfl rfl rfl (V_assign rfl rfl) ?_
  refine L_nil ?_
  change J _ _ _ _
  refine J_seq ?_
  refine J_region ?_
  refine L_v rfl rfl rfl (V_move rfl rfl) ?_
  refine L_v rfl rfl rfl (V_sliceArr rfl rfl Tryd.underlying26 sz5pf) ?_
  refine L_appO 2 (dg ([1] ++ l32 a)) r0 (n := (1 + 32)) (m := 32) (n' := (1 + 32) + 32) (ks' := dg (([1] ++ l32 a) ++ l32 b)) rfl rfl rfl rfl rfl Tryd.underlying57 el5 rfl rfl (by rw [hr0, Nat.mul_one]) hc0 (fun w1 hw => src_bytes' Tryd.underlying57 (SlB.of_mem' hw (i := 1) rfl rfl 32) rfl) rfl (app_dgM _ _) (by decide) (by decide) (fun g1 c1 r1 hc1 hr1 => ?_)
  refine L_v rfl rfl rfl (V_assign rfl rfl) ?_
  refine L_nil ?_
  change J _ _ _ _
  refine J_seq ?_
  refine J_region ?_
  refine L_v rfl rfl rfl (V_move rfl rfl) ?_
  refine L_v rfl rfl rfl (V_assign rfl rfl) ?_
  refine L_nil ?_
  change J _ _ _ _
  refine J_ret ?_
  change Kret _ _ _ Exit.ret _
  refine ret1 rfl rfl (RV_t rfl) ?_
  exact fun w' h => RetB.of h rfl 2 rfl rfl rfl hc1 (by rw [hr1, Nat.mul_one])

theorem leaf_0 {a b : Dg} {j : Nat} (hj : j < (dg (l32 a)).length) : (lfM a b)[0 + j]? = (dg (l32 a))[j]? := by unfold lfM; rw [Nat.zero_add, List.getElem?_append_left hj]
theorem leaf_1 {a b : Dg} {j : Nat} (hj : j < (dg (l32 b)).length) : (lfM a b)[32 + j]? = (dg (l32 b))[j]? := by unfold lfM; rw [List.getElem?_append_right (by show 32 ≤ 32 + j; omega)]; congr 1; show 32 + j - 32 = j; omega
theorem leafB_w (a b : Dg) (w : World) :
    Calls Tryd.prog 95 #[.agg (lfM a b).toArray] w fun e w' => RetB 5 w (0 :: (l32 a ++ l32 b)) 65 id e w' := by
  refine calls_of (args := [.agg (lfM a b).toArray]) ([]) ([]) ([]) Tryd.func95 rfl rfl (okW0 _ _ _ _) ?_
  refine J_seq ?_
  refine J_region ?_
  refine L_box rfl rfl rfl rfl rfl (fun b0 => ?_)
  refine L_v rfl rfl rfl (V_assign rfl rfl) ?_
  refine L_nil ?_
  change J _ _ _ _
  refine J_seq ?_
  refine J_region ?_
  refine L_buildSlice (vs := [(0, .int .u8 0)]) (l := dg [0]) rfl rfl rfl rfl rfl (bs1b 0) (fun b1 => ?_)
  refine L_v rfl rfl rfl (V_assign rfl rfl) ?_
  refine L_nil ?_
  change J _ _ _ _
  refine J_seq ?_
  refine J_region ?_
  refine L_v rfl rfl rfl (V_move rfl rfl) ?_
  refine L_v rfl rfl rfl (V_fieldAddr rfl rfl Tryd.underlying82 rfl sz26pf rfl) ?_
  refine L_v rfl rfl rfl (V_sliceArr rfl rfl Tryd.underlying26 sz5pf) ?_
  refine L_appO 1 (dg [0]) [] (n := 1) (m := 32) (n' := 1 + 32) (ks' := dg ([0] ++ l32 a)) rfl rfl rfl rfl rfl Tryd.underlying57 el5 rfl rfl rfl (Nat.le_refl _) (fun w1 hw => src_bytes' Tryd.underlying57 (SlB.at_off hw (i := 0) (L := lfM a b) rfl rfl (by intro j hj; exact leaf_0 hj) 32) rfl) rfl (app_dgM _ _) (by decide) (by decide) (fun g0 c0 r0 hc0 hr0 => ?_)
  refine L_v rfl rfl rfl (V_assign rfl rfl) ?_
  refine L_nil ?_
  change J _ _ _ _
  refine J_seq ?_
  refine J_region ?_
  refine L_v rfl rfl rfl (V_move rfl rfl) ?_
  refine L_v rfl rfl rfl (V_fieldAddr rfl rfl Tryd.underlying82 rfl sz26pf rfl) ?_
  refine L_v rfl rfl rfl (V_sliceArr rfl rfl Tryd.underlying26 sz5pf) ?_
  refine L_appO 1 (dg ([0] ++ l32 a)) r0 (n := (1 + 32)) (m := 32) (n' := (1 + 32) + 32) (ks' := dg (([0] ++ l32 a) ++ l32 b)) rfl rfl rfl rfl rfl Tryd.underlying57 el5 rfl rfl (by rw [hr0, Nat.mul_one]) hc0 (fun w1 hw => src_bytes' Tryd.underlying57 (SlB.at_off hw (i := 0) (L := lfM a b) rfl rfl (by intro j hj; exact leaf_1 hj) 32) rfl) rfl (app_dgM _ _) (by decide) (by decide) (fun g1 c1 r1 hc1 hr1 => ?_)
  refine L_v rfl rfl rfl (V_assign rfl rfl) ?_
  refine L_nil ?_
  change J _ _ _ _
  refine J_seq ?_
  refine J_region ?_
  refine L_v rfl rfl rfl (V_move rfl rfl) ?_
  refine L_v rfl rfl rfl (V_assign rfl rfl) ?_
  refine L_nil ?_
  change J _ _ _ _
  refine J_ret ?_
  change Kret _ _ _ Exit.ret _
  refine ret1 rfl rfl (RV_t rfl) ?_
  exact fun w' h => RetB.of h rfl 1 rfl rfl rfl hc1 (by rw [hr1, Nat.mul_one])

theorem rstart_w (p : Dg) (c : Cm) (x : Pf) (s : Sl) (w : World)  :
    Calls Tryd.prog 83 #[.agg (dgM p).toArray, .agg (cmM c).toArray, .agg (pfM x s).toArray] w fun e w' => RetB 5 w (startP p c x) (startP p c x).length id e w' := by
  refine calls_of (args := [.agg (dgM p).toArray, .agg (cmM c).toArray, .agg (pfM x s).toArray]) ([]) ([]) ([]) Tryd.func83 rfl rfl (okW0 _ _ _ _) ?_
  refine J_seq ?_
  refine J_region ?_
  refine L_box rfl rfl rfl rfl rfl (fun b0 => ?_)
  refine L_box rfl rfl rfl rfl rfl (fun b1 => ?_)
  refine L_box rfl rfl rfl rfl rfl (fun b2 => ?_)
  refine L_v rfl rfl rfl (V_assign rfl rfl) ?_
  refine L_nil ?_
  change J _ _ _ _
  refine J_seq ?_
  refine J_seq ?_
  refine J_region ?_
  refine L_v rfl rfl rfl (V_fieldAddr rfl rfl Tryd.underlying54 rfl sz4pf rfl) ?_
  refine L_v rfl rfl rfl (V_load1 1 rfl rfl rfl Tryd.underlying4 rfl (by rfl)) ?_
  refine L_nil ?_
  change J _ _ _ _
  refine J_cond rfl (fun h1 => ?_) (fun h1 => ?_)
  ·
    first | (have h1 := of_decide_eq_true h1) | (have h1 := of_decide_eq_false h1) | skip
    refine J_seq ?_
    refine J_region ?_
    refine L_v rfl rfl rfl (V_loadT 0 (vs := dgM p) rfl rfl rfl Tryd.underlying26 rfl sz26pf (by kernel_rfl) (by kernel_rfl)) ?_
    refine L_v rfl rfl rfl (V_fieldAddr rfl rfl Tryd.underlying54 rfl sz26pf rfl) ?_
    refine L_v rfl rfl rfl (V_loadT 1 (vs := dgM c.2) rfl rfl rfl Tryd.underlying26 rfl sz26pf (by kernel_rfl) (by kernel_rfl)) ?_
    refine L_v rfl rfl rfl (V_buildE (v := .agg (lfM p c.2).toArray) rfl rfl (fun w => by kernel_rfl)) ?_
    refine L_callB rfl rfl rfl rfl rfl rfl tx95pf (fun w1 hw => leafB_w p c.2 w1) (fun g1 r1 c1 hl1 hc1 hr1 => ?_)
    refine L_v rfl rfl rfl (V_assign rfl rfl) ?_
    refine L_nil ?_
    change J _ _ _ _
    refine J_ret ?_
    change Kret _ _ _ Exit.ret _
    refine ret1 rfl rfl (RV_t rfl) ?_
    exact fun w' h => by rw [show startP p c x = 0 :: (l32 p ++ l32 c.2) from if_pos h1]; exact RetB.len (RetB.of h rfl 3 rfl rfl hl1 hc1 hr1)
  ·
    first | (have h1 := of_decide_eq_true h1) | (have h1 := of_decide_eq_false h1) | skip
    refine J_skip ?_
    change J _ _ _ _
    refine J_seq ?_
    refine J_seq ?_
    refine J_region ?_
    refine L_v rfl rfl rfl (V_fieldAddr rfl rfl Tryd.underlying28 rfl sz4pf rfl) ?_
    refine L_v rfl rfl rfl (V_load1 2 rfl rfl rfl Tryd.underlying4 rfl (by rfl)) ?_
    refine L_nil ?_
    change J _ _ _ _
    refine J_cond rfl (fun h2 => ?_) (fun h2 => ?_)
    ·
      first | (have h2 := of_decide_eq_true h2) | (have h2 := of_decide_eq_false h2) | skip
      refine J_seq ?_
      refine J_region ?_
      refine L_v rfl rfl rfl (V_fieldAddr rfl rfl Tryd.underlying28 rfl sz26pf rfl) ?_
      refine L_v rfl rfl rfl (V_loadT 2 (vs := dgM x.path) rfl rfl rfl Tryd.underlying26 rfl sz26pf (by kernel_rfl) (by kernel_rfl)) ?_
      refine L_v rfl rfl rfl (V_fieldAddr rfl rfl Tryd.underlying28 rfl sz26pf rfl) ?_
      refine L_v rfl rfl rfl (V_loadT 2 (vs := dgM x.val) rfl rfl rfl Tryd.underlying26 rfl sz26pf (by kernel_rfl) (by kernel_rfl)) ?_
      refine L_v rfl rfl rfl (V_buildE (v := .agg (lfM x.path x.val).toArray) rfl rfl (fun w => by kernel_rfl)) ?_
      refine L_callB rfl rfl rfl rfl rfl rfl tx95pf (fun w1 hw => leafB_w x.path x.val w1) (fun g1 r1 c1 hl1 hc1 hr1 => ?_)
      refine L_v rfl rfl rfl (V_assign rfl rfl) ?_
      refine L_nil ?_
      change J _ _ _ _
      refine J_ret ?_
      change Kret _ _ _ Exit.ret _
      refine ret1 rfl rfl (RV_t rfl) ?_
      exact fun w' h => by rw [show startP p c x = 0 :: (l32 x.path ++ l32 x.val) from (if_neg (by rw [h1]; decide)).trans (if_pos h2)]; exact RetB.len (RetB.of h rfl 3 rfl rfl hl1 hc1 hr1)
    ·
      first | (have h2 := of_decide_eq_true h2) | (have h2 := of_decide_eq_false h2) | skip
      refine J_skip ?_
      change J _ _ _ _
      refine J_seq ?_
      refine J_region ?_
      refine L_buildSlice (vs := [(0, .int .u8 2)]) (l := dg [2]) rfl rfl rfl rfl rfl (bs1b 2) (fun b3 => ?_)
      refine L_v rfl rfl rfl (V_assign rfl rfl) ?_
      refine L_nil ?_
      change J _ _ _ _
      refine J_ret ?_
      change Kret _ _ _ Exit.ret _
      refine ret1 rfl rfl (RV_t rfl) ?_
      exact fun w' h => by rw [show startP p c x = [2] from (if_neg (by rw [h1]; decide)).trans (if_neg (by rw [h2]; decide))]; exact RetB.len (RetB.of (n := 1) (r := []) h rfl 3 rfl rfl rfl (Nat.le_refl _) rfl)

set_option maxHeartbeats 1000000 in
theorem summed_w (p : Dg) (c : Cm) (x : Pf) (s : Sl) (w : World) (hp : DB p) (hc : DB c.2) (hsb : ∀ f ∈ x.sib, DB f) (hx1 : DB x.path) (hx2 : DB x.val) (f1 : FA w (sbF x.sib s)) (hB : x.sib.length ≤ 256) (hR : TabK KT 0 w) :
    Calls Tryd.prog 56 #[.int .i64 32, .agg (dgM p).toArray, .agg (cmM c).toArray, .agg (pfM x s).toArray, .int .i64 0] w fun e w' => RetB 5 w (upP p c x x.sib.length) (upP p c x x.sib.length).length id e w' := by
  refine calls_of (args := [.int .i64 32, .agg (dgM p).toArray, .agg (cmM c).toArray, .agg (pfM x s).toArray, .int .i64 0]) ([]) ([]) ([sbF x.sib s]) Tryd.func56 rfl rfl (okFW (.cons f1 .nil)) ?_
  refine J_seq ?_
  refine J_region ?_
  refine L_box rfl rfl rfl rfl rfl (fun b0 => ?_)
  refine L_box rfl rfl rfl rfl rfl (fun b1 => ?_)
  refine L_box rfl rfl rfl rfl rfl (fun b2 => ?_)
  refine L_v rfl rfl rfl (V_assign rfl rfl) ?_
  refine L_nil ?_
  change J _ _ _ _
  refine J_seq ?_
  refine J_region ?_
  refine L_v rfl rfl rfl (V_loadT 0 (vs := dgM p) rfl rfl rfl Tryd.underlying26 rfl sz26pf (by kernel_rfl) (by kernel_rfl)) ?_
  refine L_v rfl rfl rfl (V_loadT 1 (vs := cmM c) rfl rfl rfl Tryd.underlying54 rfl sz54pf (by kernel_rfl) (by kernel_rfl)) ?_
  refine L_v rfl rfl rfl (V_loadT 2 (vs := pfM x s) rfl rfl rfl Tryd.underlying28 rfl sz28pf (by kernel_rfl) (by kernel_rfl)) ?_
  refine L_callB rfl rfl rfl rfl rfl rfl tx83pf (fun w1 hw => rstart_w p c x s w1) (fun g1 r1 c1 hl1 hc1 hr1 => ?_)
  refine L_v rfl rfl rfl (V_assign rfl rfl) ?_
  refine L_nil ?_
  change J _ _ _ _
  refine J_seq ?_
  refine J_seq ?_
  refine J_region ?_
  refine L_v rfl rfl rfl (V_fieldAddr rfl rfl Tryd.underlying28 rfl sz24pf rfl) ?_
  refine L_v rfl rfl rfl (V_load1 2 rfl rfl rfl Tryd.underlying24 rfl (by rfl)) ?_
  refine L_v rfl rfl rfl (V_len rfl rfl Tryd.underlying24 rfl) ?_
  refine L_v rfl rfl rfl (V_sub rfl rfl rfl (by first | exact Go.IntWalk.i64_in _ (by omega) | rfl)) ?_
  refine L_v rfl rfl rfl (V_assign rfl rfl) ?_
  refine L_nil ?_
  change J _ _ _ _
  refine J_block ?_
  refine J_loop (X := Nat × Nat × Nat × List Value) (fun y => { env := [(0, .int .i64 32), (4, .int .i64 0), (6, .pointer (some ⟨b0, 0, none⟩)), (7, .pointer (some ⟨b1, 0, none⟩)), (8, .pointer (some ⟨b2, 0, none⟩)), (11, .slice (some ⟨y.2.1, 0, none⟩) (upP p c x y.1).length y.2.2.1), (12, .int .i64 ((x.sib.length : Int) - 1 - (y.1 : Int)))], mem := [(b0, row 26 (dgM p)), (b1, row 54 (cmM c)), (b2, row 28 (pfM x s)), (y.2.1, row 5 (dg (upP p c x y.1) ++ y.2.2.2))], facts := [sbF x.sib s] }) (fun y => y.1 ≤ x.sib.length ∧ (upP p c x y.1).length ≤ y.2.2.1 ∧ y.2.2.2.length = y.2.2.1 - (upP p c x y.1).length) (fun y => x.sib.length - y.1) (0, g1, c1, r1) ⟨Nat.zero_le _, hc1, hr1⟩ ⟨⟨rfl, rfl, rfl, rfl, rfl, rfl, (by show _ = some (Value.int .i64 _); rw [show ((x.sib.length : Int) - 1 - ((0 : Nat) : Int)) = (x.sib.length : Int) - 1 by omega]; rfl), trivial⟩, List.Sublist.refl _, fun f hf => hf, rfl⟩ ?_
  rintro ⟨k, g, cc, rr⟩ ⟨hk, hcc, hrr⟩
  simp only at hk hcc hrr ⊢
  refine J_seq ?_
  refine J_seq ?_
  refine J_region ?_
  refine L_v rfl rfl rfl (V_move rfl rfl) ?_
  refine L_v rfl rfl rfl (V_move rfl rfl) ?_
  refine L_v rfl rfl rfl (V_geq rfl rfl rfl (by first | exact decide_eq_true (by omega) | exact decide_eq_false (by omega) | rfl)) ?_
  refine L_nil ?_
  change J _ _ _ _
  refine J_cond rfl (fun h1 => ?_) (fun h1 => ?_)
  ·
    first | (have h1 := of_decide_eq_true h1) | (have h1 := of_decide_eq_false h1) | skip
    refine J_skip ?_
    change J _ _ _ _
    refine J_seq ?_
    refine J_block ?_
    refine J_seq ?_
    refine J_region ?_
    refine L_v rfl rfl rfl (V_move rfl rfl) ?_
    refine L_v rfl rfl rfl (V_move rfl rfl) ?_
    refine L_callV rfl rfl rfl rfl rfl rfl tx55pf (fun w1 hw => rShort_w (upP p c x k) (some ⟨g, 0, none⟩) (upP p c x k).length cc w1 (SlB.of_own hw (i := 3) (l := upP p c x k) rfl rfl cc) (upP_byt hp hc hsb hx1 hx2 k) (TabK.later hw (by simp) hR) (by have := upP_len p c x k; omega)) ?_
    refine L_v rfl rfl rfl (V_move rfl rfl) ?_
    refine L_v rfl rfl rfl (V_extract rfl rfl rfl) ?_
    refine L_v rfl rfl rfl (V_extract rfl rfl rfl) ?_
    refine L_alloc rfl rfl rfl rfl z26pf (fun b4 => ?_)
    refine L_storeW 4 rfl rfl rfl rfl rfl rfl (szd sz26pf (by kernel_rfl)) (all_one (by kernel_rfl)) (by kernel_rfl) ?_
    refine L_v rfl rfl rfl (V_assign rfl rfl) ?_
    refine L_nil ?_
    change J _ _ _ _
    refine J_seq ?_
    refine J_region ?_
    refine L_v rfl rfl rfl (V_loadT 0 (vs := dgM p) rfl rfl rfl Tryd.underlying26 rfl sz26pf (by kernel_rfl) (by kernel_rfl)) ?_
    refine L_v rfl rfl rfl (V_move rfl rfl) ?_
    refine L_same 35 rfl ((show Value.int .i64 ((x.sib.length : Int) - 1 - (k : Int)) = Value.int .i64 ((x.sib.length - 1 - k : Nat) : Int) from congrArg _ (by omega))) ?_
    refine L_callV rfl rfl rfl rfl rfl rfl tx84pf (fun w1 hw => at_w (l32 p) ((x.sib.length - 1 - k : Nat) : Int) w1 rfl hp (by omega) (by omega)) ?_
    refine L_v rfl rfl rfl (V_eql rfl rfl rfl (by first | exact decide_eq_true (by omega) | exact decide_eq_false (by omega) | rfl)) ?_
    refine L_nil ?_
    change J _ _ _ _
    refine J_cond rfl (fun h2 => ?_) (fun h2 => ?_)
    ·
      first | (have h2 := of_decide_eq_true h2) | (have h2 := of_decide_eq_false h2) | skip
      refine J_regionO (.pure 0 (.pure 1 (.pure 2 (.pure 3 (.pure 4 (.pure 5 (.one 6 (.pure 7 (.nil))))))))) _ _ (Pk.refl _) (fun f hf => hf) rfl rfl (by kernel_rfl) ?_
      refine LO_v rfl rfl rfl rfl (V_loadT 4 (vs := dgM (shD (upP p c x k))) rfl rfl rfl Tryd.underlying26 rfl sz26pf (by kernel_rfl) (by kernel_rfl)) ?_
      refine LO_v rfl rfl rfl rfl (V_fieldAddr rfl rfl Tryd.underlying28 rfl sz24pf rfl) ?_
      refine LO_v rfl rfl rfl rfl (V_load1 2 rfl rfl rfl Tryd.underlying24 rfl (by rfl)) ?_
      refine LO_v rfl rfl rfl rfl (V_move rfl rfl) ?_
      refine LO_v rfl rfl rfl rfl (V_indexC rfl rfl rfl Tryd.underlying24 sz26pf (fun w hw => (hw.fa 0 rfl).1) (by omega) (by omega)) ?_
      refine LO_v rfl rfl rfl rfl (V_loadCN (vs := dgM (x.sib.getD (x.sib.length - 1 - k) dz)) rfl rfl Tryd.underlying26 rfl (szd sz26pf (by kernel_rfl)) (fun w hw => (hw.fa 0 rfl).1) (by exact Nat.zero_lt_succ _) (rows_vi (f := dgM) dz (sz := 31) (fun _ => rfl) (by omega) (by omega))) ?_
      refine LO_s rfl rfl rfl (S_call rfl rfl rfl tx85pf (fun w1 hw => (nodeB_w (shD (upP p c x k)) (x.sib.getD (x.sib.length - 1 - k) dz) w1).mono ?_))
      rintro e w' ⟨g1, r1, c1, rfl, hn1, hl1, hc1, hr1⟩
      refine ⟨_, _, _, rfl, hn1.okW hw, rfl, (Pk.app (Pk.refl _) _), fun f hf => hf, ?_⟩
      refine LO_v rfl rfl rfl rfl (V_assign rfl rfl) ?_
      refine LO_nil ?_
      change J _ _ _ _
      refine J_region ?_
      refine L_v rfl rfl rfl (V_move rfl rfl) ?_
      refine L_v rfl rfl rfl (V_sub (r := (x.sib.length : Int) - 1 - ((k + 1 : Nat) : Int)) rfl rfl rfl (by rw [Go.IntWalk.i64_in _ (by omega)]; omega)) ?_
      refine L_v rfl rfl rfl (V_assign rfl rfl) ?_
      refine L_nil ?_
      have e9 : upP p c x (k + 1) = nodeP (shD (upP p c x k)) (x.sib.getD (x.sib.length - 1 - k) dz) := (if_neg (by rw [h2]; decide))
      exact ⟨(k + 1, g1, c1, r1), ⟨by show k + 1 ≤ x.sib.length; omega, by show (upP p c x (k + 1)).length ≤ c1; rw [e9, nodeP_len]; exact hc1, by show r1.length = c1 - (upP p c x (k + 1)).length; rw [e9, nodeP_len]; exact hr1⟩, by show x.sib.length - (k + 1) < x.sib.length - k; omega, ⟨rfl, rfl, rfl, rfl, rfl, (by show _ = some (Value.slice (some ⟨g1, 0, none⟩) (upP p c x (k + 1)).length c1); rw [e9, nodeP_len]; rfl), rfl, trivial⟩, (by show List.Sublist [_, _, _, (g1, row 5 (dg (upP p c x (k + 1)) ++ r1))] _; rw [e9]; exact List.Sublist.cons_cons _ (List.Sublist.cons_cons _ (List.Sublist.cons_cons _ (List.Sublist.cons _ (List.Sublist.cons _ (List.Sublist.cons_cons _ (List.nil_sublist _))))))), fun f hf => hf, rfl⟩
    ·
      first | (have h2 := of_decide_eq_true h2) | (have h2 := of_decide_eq_false h2) | skip
      refine J_regionO (.pure 0 (.pure 1 (.pure 2 (.pure 3 (.pure 4 (.pure 5 (.one 6 (.pure 7 (.nil))))))))) _ _ (Pk.refl _) (fun f hf => hf) rfl rfl (by kernel_rfl) ?_
      refine LO_v rfl rfl rfl rfl (V_fieldAddr rfl rfl Tryd.underlying28 rfl sz24pf rfl) ?_
      refine LO_v rfl rfl rfl rfl (V_load1 2 rfl rfl rfl Tryd.underlying24 rfl (by rfl)) ?_
      refine LO_v rfl rfl rfl rfl (V_move rfl rfl) ?_
      refine LO_v rfl rfl rfl rfl (V_indexC rfl rfl rfl Tryd.underlying24 sz26pf (fun w hw => (hw.fa 0 rfl).1) (by omega) (by omega)) ?_
      refine LO_v rfl rfl rfl rfl (V_loadCN (vs := dgM (x.sib.getD (x.sib.length - 1 - k) dz)) rfl rfl Tryd.underlying26 rfl (szd sz26pf (by kernel_rfl)) (fun w hw => (hw.fa 0 rfl).1) (by exact Nat.zero_lt_succ _) (rows_vi (f := dgM) dz (sz := 31) (fun _ => rfl) (by omega) (by omega))) ?_
      refine LO_v rfl rfl rfl rfl (V_loadT 4 (vs := dgM (shD (upP p c x k))) rfl rfl rfl Tryd.underlying26 rfl sz26pf (by kernel_rfl) (by kernel_rfl)) ?_
      refine LO_s rfl rfl rfl (S_call rfl rfl rfl tx85pf (fun w1 hw => (nodeB_w (x.sib.getD (x.sib.length - 1 - k) dz) (shD (upP p c x k)) w1).mono ?_))
      rintro e w' ⟨g1, r1, c1, rfl, hn1, hl1, hc1, hr1⟩
      refine ⟨_, _, _, rfl, hn1.okW hw, rfl, (Pk.app (Pk.refl _) _), fun f hf => hf, ?_⟩
      refine LO_v rfl rfl rfl rfl (V_assign rfl rfl) ?_
      refine LO_nil ?_
      change J _ _ _ _
      refine J_region ?_
      refine L_v rfl rfl rfl (V_move rfl rfl) ?_
      refine L_v rfl rfl rfl (V_sub (r := (x.sib.length : Int) - 1 - ((k + 1 : Nat) : Int)) rfl rfl rfl (by rw [Go.IntWalk.i64_in _ (by omega)]; omega)) ?_
      refine L_v rfl rfl rfl (V_assign rfl rfl) ?_
      refine L_nil ?_
      have e9 : upP p c x (k + 1) = nodeP (x.sib.getD (x.sib.length - 1 - k) dz) (shD (upP p c x k)) := (if_pos (by have := bitOf_two (l32 p) ((x.sib.length - 1 - k : Nat) : Int); omega))
      exact ⟨(k + 1, g1, c1, r1), ⟨by show k + 1 ≤ x.sib.length; omega, by show (upP p c x (k + 1)).length ≤ c1; rw [e9, nodeP_len]; exact hc1, by show r1.length = c1 - (upP p c x (k + 1)).length; rw [e9, nodeP_len]; exact hr1⟩, by show x.sib.length - (k + 1) < x.sib.length - k; omega, ⟨rfl, rfl, rfl, rfl, rfl, (by show _ = some (Value.slice (some ⟨g1, 0, none⟩) (upP p c x (k + 1)).length c1); rw [e9, nodeP_len]; rfl), rfl, trivial⟩, (by show List.Sublist [_, _, _, (g1, row 5 (dg (upP p c x (k + 1)) ++ r1))] _; rw [e9]; exact List.Sublist.cons_cons _ (List.Sublist.cons_cons _ (List.Sublist.cons_cons _ (List.Sublist.cons _ (List.Sublist.cons _ (List.Sublist.cons_cons _ (List.nil_sublist _))))))), fun f hf => hf, rfl⟩
  ·
    first | (have h1 := of_decide_eq_true h1) | (have h1 := of_decide_eq_false h1) | skip
    refine J_exit ?_
    change J _ _ _ _
    refine J_seq ?_
    refine J_region ?_
    refine L_v rfl rfl rfl (V_move rfl rfl) ?_
    refine L_v rfl rfl rfl (V_assign rfl rfl) ?_
    refine L_nil ?_
    change J _ _ _ _
    refine J_ret ?_
    change Kret _ _ _ Exit.ret _
    refine ret1 rfl rfl (RV_t rfl) ?_
    obtain rfl : k = x.sib.length := by omega
    exact fun w' h => RetB.of h rfl 3 rfl rfl rfl hcc hrr

abbrev rMayP (p : Dg) (c : Cm) (x : Pf) : Prop := (x.sib.length ≤ 256 ∧ ¬ (c.1 = true ∧ x.other = true)) ∧ (x.other = true ∨ x.path = dz ∧ x.val = dz) ∧ (x.other = true → x.path ≠ p ∧ (x.sib.length : Int) ≤ com (l32 p) (l32 x.path))
theorem rno {p : Dg} {c : Cm} {x : Pf} (h : ((!c.1 && decide (¬ c.2 = dz)) || !decide (rMayP p c x)) = true) : ¬ mayPf p c x := by
  by_cases h1 : c.1 = false ∧ c.2 ≠ dz
  · exact may_ref0 h1
  · rw [may_ref h1]
    simp only [Bool.or_eq_true, Bool.and_eq_true, Bool.not_eq_true', decide_eq_true_eq, decide_eq_false_iff_not] at h
    exact h.resolve_left h1
theorem ryes {p : Dg} {c : Cm} {x : Pf} (h : ((!c.1 && decide (¬ c.2 = dz)) || !decide (rMayP p c x)) = false) : mayPf p c x := by
  simp only [Bool.or_eq_false_iff, Bool.and_eq_false_iff, Bool.not_eq_false', decide_eq_true_eq, decide_eq_false_iff_not, Classical.not_not] at h
  refine (may_ref ?_).2 h.2
  rintro ⟨h1, h2⟩
  rcases h.1 with h3 | h3
  · rw [h1] at h3; cases h3
  · exact h2 h3
theorem rpCheck_w (p : Dg) (c : Cm) (x : Pf) (s : Sl) (root : Dg) (w : World) (hp : DB p) (hc : DB c.2) (hsb : ∀ f ∈ x.sib, DB f) (hx1 : DB x.path) (hx2 : DB x.val) (f1 : FA w (sbF x.sib s)) (hB : x.sib.length ≤ 1099511627776) (hR : TabK KT 0 w) :
    Calls Tryd.prog 26 #[.int .i64 32, .agg (dgM root).toArray, .agg (dgM p).toArray, .agg (cmM c).toArray, .agg (pfM x s).toArray] w fun e w' => e = .returned (.int .i64 (pchk root p c x)) ∧ Fr [] w w' := by
  refine calls_of (args := [.int .i64 32, .agg (dgM root).toArray, .agg (dgM p).toArray, .agg (cmM c).toArray, .agg (pfM x s).toArray]) ([]) ([]) ([sbF x.sib s]) Tryd.func26 rfl rfl (okFW (.cons f1 .nil)) ?_
  refine J_seq ?_
  refine J_region ?_
  refine L_box rfl rfl rfl rfl rfl (fun b0 => ?_)
  refine L_box rfl rfl rfl rfl rfl (fun b1 => ?_)
  refine L_box rfl rfl rfl rfl rfl (fun b2 => ?_)
  refine L_box rfl rfl rfl rfl rfl (fun b3 => ?_)
  refine L_v rfl rfl rfl (V_assign rfl rfl) ?_
  refine L_nil ?_
  change J _ _ _ _
  refine J_seq ?_
  refine J_seq ?_
  refine J_region ?_
  refine L_v rfl rfl rfl (V_move rfl rfl) ?_
  refine L_callV rfl rfl rfl rfl rfl rfl tx53pf (fun w1 hw => rwidth_w w1) ?_
  refine L_v rfl rfl rfl (V_not rfl rfl rfl) ?_
  refine L_nil ?_
  change J _ _ _ _
  refine J_false rfl ?_
  refine J_skip ?_
  change J _ _ _ _
  refine J_seq ?_
  refine J_seq ?_
  refine J_region ?_
  refine L_v rfl rfl rfl (V_fieldAddr rfl rfl Tryd.underlying54 rfl sz4pf rfl) ?_
  refine L_v rfl rfl rfl (V_load1 2 rfl rfl rfl Tryd.underlying4 rfl (by rfl)) ?_
  refine L_v rfl rfl rfl (V_not rfl rfl rfl) ?_
  refine L_v rfl rfl rfl (V_move rfl rfl) ?_
  apply L_and 4 19 24
  · rfl
  · rfl
  · rfl
  · rfl
  · rfl
  · rfl
  · rfl
  · kernel_rfl
  · intro hb1 _ _ hk1
    refine L_wv rfl rfl rfl rfl rfl rfl (V_fieldAddr rfl rfl Tryd.underlying54 rfl sz26pf rfl) ?_
    refine L_wv rfl rfl rfl rfl rfl rfl (V_loadT 2 (vs := dgM c.2) rfl rfl rfl Tryd.underlying26 rfl sz26pf (by kernel_rfl) (by kernel_rfl)) ?_
    refine L_wv rfl rfl rfl rfl rfl rfl (V_buildE (v := .agg (dgM dz).toArray) rfl rfl (fun w => by kernel_rfl)) ?_
    refine L_wv rfl rfl rfl rfl rfl rfl (V_neAgg rfl rfl rfl (by kernel_rfl : Tryd.prog.eqGuardType Tryd.prog.depth 26 = false) (fun w => eqDgDO _ _ w) decide_not.symm) ?_
    exact hk1 _ ⟨rfl, rfl, rfl, rfl, ext_cut 4 (by kernel_rfl) (by kernel_rfl)⟩
  refine L_v rfl rfl rfl (V_move rfl rfl) ?_
  apply L_or 5 25 31
  · rfl
  · rfl
  · rfl
  · rfl
  · rfl
  · rfl
  · rfl
  · kernel_rfl
  · intro hb2 _ _ hk2
    refine L_wv rfl rfl rfl rfl rfl rfl (V_loadT 1 (vs := dgM p) rfl rfl rfl Tryd.underlying26 rfl sz26pf (by kernel_rfl) (by kernel_rfl)) ?_
    refine L_wv rfl rfl rfl rfl rfl rfl (V_loadT 2 (vs := cmM c) rfl rfl rfl Tryd.underlying54 rfl sz54pf (by kernel_rfl) (by kernel_rfl)) ?_
    refine L_wv rfl rfl rfl rfl rfl rfl (V_loadT 3 (vs := pfM x s) rfl rfl rfl Tryd.underlying28 rfl sz28pf (by kernel_rfl) (by kernel_rfl)) ?_
    refine L_wcallV rfl rfl rfl rfl rfl rfl rfl rfl rfl tx54pf (fun w1 hw => rpmay_w p c x s w1 hp hx1 hB) ?_
    refine L_wv rfl rfl rfl rfl rfl rfl (V_not rfl rfl rfl) ?_
    exact hk2 _ ⟨rfl, rfl, rfl, rfl, ext_cut 5 (by kernel_rfl) (by kernel_rfl)⟩
  refine L_nil ?_
  change J _ _ _ _
  refine J_cond rfl (fun h3 => ?_) (fun h3 => ?_)
  ·
    first | (have h3 := of_decide_eq_true h3) | (have h3 := of_decide_eq_false h3) | skip
    refine J_seq ?_
    refine J_region ?_
    refine L_v rfl rfl rfl (V_assign rfl rfl) ?_
    refine L_nil ?_
    change J _ _ _ _
    refine J_ret ?_
    change Kret _ _ _ Exit.ret _
    refine ret1 rfl rfl (RV_t rfl) ?_
    exact fun w' h => ⟨congrArg (fun b => Ending.returned (Value.int .i64 b)) (by unfold pchk; rw [if_neg (rno h3)]), h.fr⟩
  ·
    first | (have h3 := of_decide_eq_true h3) | (have h3 := of_decide_eq_false h3) | skip
    have hm := ryes h3
    have h256 := hm.1.1
    refine J_skip ?_
    change J _ _ _ _
    refine J_seq ?_
    refine J_region ?_
    refine L_v rfl rfl rfl (V_move rfl rfl) ?_
    refine L_v rfl rfl rfl (V_move rfl rfl) ?_
    refine L_v rfl rfl rfl (V_loadT 1 (vs := dgM p) rfl rfl rfl Tryd.underlying26 rfl sz26pf (by kernel_rfl) (by kernel_rfl)) ?_
    refine L_v rfl rfl rfl (V_loadT 2 (vs := cmM c) rfl rfl rfl Tryd.underlying54 rfl sz54pf (by kernel_rfl) (by kernel_rfl)) ?_
    refine L_v rfl rfl rfl (V_loadT 3 (vs := pfM x s) rfl rfl rfl Tryd.underlying28 rfl sz28pf (by kernel_rfl) (by kernel_rfl)) ?_
    refine L_callB rfl rfl rfl rfl rfl rfl tx56pf (fun w1 hw => summed_w p c x s w1 hp hc hsb hx1 hx2 (hw.fa 0 rfl) h256 (TabK.later hw (by simp) hR)) (fun g1 r1 c1 hl1 hc1 hr1 => ?_)
    refine L_callV rfl rfl rfl rfl rfl rfl tx55pf (fun w1 hw => rShort_w (upP p c x x.sib.length) (some ⟨g1, 0, none⟩) _ c1 w1 (SlB.of_own hw (i := 4) (l := upP p c x x.sib.length) rfl rfl c1) (upP_byt hp hc hsb hx1 hx2 _) (TabK.later hw (by simp) hR) (by have := upP_len p c x x.sib.length; omega)) ?_
    refine L_v rfl rfl rfl (V_move rfl rfl) ?_
    refine L_v rfl rfl rfl (V_extract rfl rfl rfl) ?_
    refine L_v rfl rfl rfl (V_extract rfl rfl rfl) ?_
    refine L_alloc rfl rfl rfl rfl z26pf (fun b5 => ?_)
    refine L_storeW 5 rfl rfl rfl rfl rfl rfl (szd sz26pf (by kernel_rfl)) (all_one (by kernel_rfl)) (by kernel_rfl) ?_
    refine L_v rfl rfl rfl (V_assign rfl rfl) ?_
    refine L_nil ?_
    change J _ _ _ _
    refine J_seq ?_
    refine J_seq ?_
    refine J_region ?_
    refine L_v rfl rfl rfl (V_loadT 5 (vs := dgM (shD (upP p c x x.sib.length))) rfl rfl rfl Tryd.underlying26 rfl sz26pf (by kernel_rfl) (by kernel_rfl)) ?_
    refine L_v rfl rfl rfl (V_loadT 0 (vs := dgM root) rfl rfl rfl Tryd.underlying26 rfl sz26pf (by kernel_rfl) (by kernel_rfl)) ?_
    refine L_v rfl rfl rfl (V_neAgg rfl rfl rfl (by kernel_rfl : Tryd.prog.eqGuardType Tryd.prog.depth 26 = false) (fun w => eqDgDO _ _ w) decide_not.symm) ?_
    refine L_nil ?_
    change J _ _ _ _
    refine J_cond rfl (fun h4 => ?_) (fun h4 => ?_)
    ·
      first | (have h4 := of_decide_eq_true h4) | (have h4 := of_decide_eq_false h4) | skip
      refine J_seq ?_
      refine J_region ?_
      refine L_v rfl rfl rfl (V_assign rfl rfl) ?_
      refine L_nil ?_
      change J _ _ _ _
      refine J_ret ?_
      change Kret _ _ _ Exit.ret _
      refine ret1 rfl rfl (RV_t rfl) ?_
      exact fun w' h => ⟨congrArg (fun b => Ending.returned (Value.int .i64 b)) (by unfold pchk; rw [if_pos hm]; exact (if_neg h4).symm), h.fr⟩
    ·
      first | (have h4 := of_decide_eq_true h4) | (have h4 := of_decide_eq_false h4) | skip
      refine J_skip ?_
      change J _ _ _ _
      refine J_seq ?_
      refine J_region ?_
      refine L_v rfl rfl rfl (V_assign rfl rfl) ?_
      refine L_nil ?_
      change J _ _ _ _
      refine J_ret ?_
      change Kret _ _ _ Exit.ret _
      refine ret1 rfl rfl (RV_t rfl) ?_
      exact fun w' h => ⟨congrArg (fun b => Ending.returned (Value.int .i64 b)) (by unfold pchk; rw [if_pos hm]; exact (if_pos (Classical.not_not.1 h4)).symm), h.fr⟩

end Go.Proofs.YtfdmjjhgdbpfeaaDoor

/- What the functions of layer 1 that put bytes come to. -/
set_option linter.unusedVariables false
set_option linter.unusedSimpArgs false
set_option maxRecDepth 100000
namespace Go.Proofs.YtfdmjjhgdbpfeaaDoor
open Go.Sx
theorem el : ElemOf Tryd.prog 5 1 1 (.int .u8 0) := elem_of (by kernel_rfl) rfl
theorem sz3 : (Tryd.prog.info? 3).map (·.size) = some 1 := by kernel_rfl
theorem tx92 : Txt Tryd.prog 92 := txt_of Tryd.func92 rfl (by kernel_rfl)
theorem bz5 : (Tryd.prog.info? 5).map (fun i => (i.zero, i.size)) = some (some (.int .u8 0), 1) := by kernel_rfl

theorem groups_step (n : Int) (G : List Int) (w : World) (h0 : 0 ≤ n) (h1 : n < 9223372036854775808) (hG : G.length ≤ 100) (ih : 128 ≤ n → ∀ w, Calls Tryd.prog 92 #[.int .i64 (n / 128)] w (RetB 5 w G G.length id)) :
    Calls Tryd.prog 92 #[.int .i64 n] w fun e w' => RetB 5 w (if n < 128 then [n] else (128 + n % 128) :: G) (if n < 128 then [n] else (128 + n % 128) :: G).length id e w' := by
  refine calls_of (args := [.int .i64 n]) ([]) ([]) ([]) Tryd.func92 rfl rfl (okW0 _ _ _ _) ?_
  refine J_seq ?_
  refine J_region ?_
  refine L_v rfl rfl rfl (V_assign rfl rfl) ?_
  refine L_nil ?_
  change J _ _ _ _
  refine J_seq ?_
  refine J_seq ?_
  refine J_region ?_
  refine L_v rfl rfl rfl (V_move rfl rfl) ?_
  refine L_v rfl rfl rfl (V_lss rfl rfl rfl (by first | exact decide_eq_true (by omega) | exact decide_eq_false (by omega) | rfl)) ?_
  refine L_nil ?_
  change J _ _ _ _
  refine J_cond rfl (fun h1 => ?_) (fun h1 => ?_)
  ·
    first | (have h1 := of_decide_eq_true h1) | (have h1 := of_decide_eq_false h1) | skip
    refine J_seq ?_
    refine J_region ?_
    refine L_v rfl rfl rfl (V_move rfl rfl) ?_
    refine L_v rfl rfl rfl (V_conv rfl rfl Tryd.underlying3 Tryd.underlying5 (by first | exact Go.IntWalk.u8_in _ (by omega) | rfl)) ?_
    refine L_bs1 rfl rfl rfl rfl rfl Tryd.underlying57 bz5 rfl rfl (fun b0 => ?_)
    refine L_v rfl rfl rfl (V_assign rfl rfl) ?_
    refine L_nil ?_
    change J _ _ _ _
    refine J_ret ?_
    change Kret _ _ _ Exit.ret _
    refine ret1 rfl rfl (RV_t rfl) ?_
    rw [if_pos h1]
    exact fun w' h => RetB.of (l := [n]) (r := []) h rfl 0 rfl rfl rfl (Nat.le_refl _) rfl
  ·
    first | (have h1 := of_decide_eq_true h1) | (have h1 := of_decide_eq_false h1) | skip
    refine J_skip ?_
    change J _ _ _ _
    refine J_seq ?_
    refine J_region ?_
    refine L_v rfl rfl rfl (V_move rfl rfl) ?_
    refine L_v rfl rfl rfl (V_rem rfl rfl rfl (by omega) (by first | exact r64 (by omega) | rfl)) ?_
    refine L_v rfl rfl rfl (V_add rfl rfl rfl (by first | exact Go.IntWalk.i64_in _ (by omega) | rfl)) ?_
    refine L_v rfl rfl rfl (V_conv rfl rfl Tryd.underlying3 Tryd.underlying5 (by first | exact Go.IntWalk.u8_in _ (by omega) | rfl)) ?_
    refine L_bs1 rfl rfl rfl rfl rfl Tryd.underlying57 bz5 rfl rfl (fun b0 => ?_)
    refine L_v rfl rfl rfl (V_assign rfl rfl) ?_
    refine L_nil ?_
    change J _ _ _ _
    refine J_seq ?_
    refine J_region ?_
    refine L_v rfl rfl rfl (V_move rfl rfl) ?_
    refine L_v rfl rfl rfl (V_quo rfl rfl rfl (by omega) (by first | exact q64 (by omega) (by omega) (by omega) | rfl)) ?_
    refine L_callB rfl rfl rfl rfl rfl rfl tx92 (fun w _ => ih (by omega) w) (fun g r c hgl hc hr => ?_)
    refine L_v rfl rfl rfl (V_assign rfl rfl) ?_
    refine L_nil ?_
    change J _ _ _ _
    refine J_seq ?_
    refine J_region ?_
    refine L_v rfl rfl rfl (V_move rfl rfl) ?_
    refine L_v rfl rfl rfl (V_move rfl rfl) ?_
    refine L_appO 0 [.int .u8 (128 + n % 128)] [] (n := 1) (n' := ((128 + n % 128) :: G).length) (ks' := dg ((128 + n % 128) :: G)) rfl rfl rfl rfl rfl Tryd.underlying57 el rfl rfl rfl (Nat.le_refl _) (fun w hw => src_bytes' Tryd.underlying57 (SlB.of_own hw (i := 1) rfl hgl _) hgl) (Nat.add_comm _ _) rfl (by simp only [List.length_cons]; omega) (by simp only [List.length_cons]; omega) (fun g2 c2 r2 hc2 hr2 => ?_)
    refine L_v rfl rfl rfl (V_assign rfl rfl) ?_
    refine L_nil ?_
    change J _ _ _ _
    refine J_seq ?_
    refine J_region ?_
    refine L_v rfl rfl rfl (V_move rfl rfl) ?_
    refine L_v rfl rfl rfl (V_assign rfl rfl) ?_
    refine L_nil ?_
    change J _ _ _ _
    refine J_ret ?_
    change Kret _ _ _ Exit.ret _
    refine ret1 rfl rfl (RV_t rfl) ?_
    rw [if_neg h1]
    exact fun w' h => RetB.of h rfl 0 rfl rfl rfl hc2 (by simpa using hr2)

theorem groups_w : ∀ (f : Nat) (n : Int) (w : World), 0 ≤ n → n < 128 ^ (f + 1) → n < 9223372036854775808 → f ≤ 20 → Calls Tryd.prog 92 #[.int .i64 n] w (RetB 5 w (grpF f n) (grpF f n).length id)
  | 0, n, w, h0, h1, h2, hf => by
    have h1' : n < 128 := by simpa using h1
    have := groups_step n [] w h0 h2 (by simp) (fun h => by omega)
    rw [if_pos h1'] at this
    exact this
  | f + 1, n, w, h0, h1, h2, hf => groups_step n (grpF f (n / 128)) w h0 h2 (by have := (grpF_len f (n / 128)).2; omega) (fun h w => groups_w f (n / 128) w (by omega) (by rw [Int.pow_succ] at h1; omega) (by omega) (by omega))
theorem grp_w (n : Int) (w : World) (h0 : 0 ≤ n) (h1 : n < 9223372036854775808) : Calls Tryd.prog 92 #[.int .i64 n] w (RetB 5 w (grp n) (grp n).length id) := groups_w 8 n w h0 (by omega) h1 (by omega)

theorem refB_ok (s : ByteArray) (w : World) (h : s.size ≤ 65536) :
    Calls Tryd.prog 93 #[.string s] w fun e w' => RetB 5 w (grp s.size ++ bs s) (grp s.size ++ bs s).length (fun s => .tuple #[s, .int .i64 0]) e w' := by
  have hgl := grp_len s.size
  have hbl := bs_length s
  refine calls_of (args := [.string s]) ([]) ([]) ([]) Tryd.func93 rfl rfl (okW0 _ _ _ _) ?_
  refine J_seq ?_
  refine J_region ?_
  refine L_v rfl rfl rfl (V_assign rfl rfl) ?_
  refine L_v rfl rfl rfl (V_assign rfl rfl) ?_
  refine L_nil ?_
  change J _ _ _ _
  refine J_seq ?_
  refine J_seq ?_
  refine J_region ?_
  refine L_v rfl rfl rfl (V_move rfl rfl) ?_
  refine L_v rfl rfl rfl (V_lenS rfl rfl Tryd.underlying9 rfl) ?_
  refine L_v rfl rfl rfl (V_gtr rfl rfl rfl (by first | exact decide_eq_true (by omega) | exact decide_eq_false (by omega) | rfl)) ?_
  refine L_nil ?_
  change J _ _ _ _
  refine J_false rfl ?_
  refine J_skip ?_
  change J _ _ _ _
  refine J_seq ?_
  refine J_region ?_
  refine L_v rfl rfl rfl (V_move rfl rfl) ?_
  refine L_v rfl rfl rfl (V_lenS rfl rfl Tryd.underlying9 rfl) ?_
  refine L_callB rfl rfl rfl rfl rfl rfl tx92 (fun w _ => grp_w _ w (by omega) (by omega)) (fun g1 r1 c1 hl1 hc1 hr1 => ?_)
  refine L_v rfl rfl rfl (V_assign rfl rfl) ?_
  refine L_nil ?_
  change J _ _ _ _
  refine J_seq ?_
  refine J_region ?_
  refine L_v rfl rfl rfl (V_move rfl rfl) ?_
  refine L_v rfl rfl rfl (V_move rfl rfl) ?_
  refine L_appO 0 (dg (grp s.size)) r1 (n' := (grp s.size ++ bs s).length) (ks' := dg (grp s.size ++ bs s)) rfl rfl rfl rfl rfl Tryd.underlying57 el rfl (by rw [dg_length, Nat.mul_one]) (by rw [Nat.mul_one]; exact hr1) hc1 (fun w hw => src_string Tryd.underlying9 _) (by rw [List.length_append, hbl]) (dg_append _ _).symm (by simp only [List.length_append]; omega) (by simp only [List.length_append]; omega) (fun g2 c2 r2 hc2 hr2 => ?_)
  refine L_v rfl rfl rfl (V_assign rfl rfl) ?_
  refine L_nil ?_
  change J _ _ _ _
  refine J_seq ?_
  refine J_region ?_
  refine L_v rfl rfl rfl (V_move rfl rfl) ?_
  refine L_v rfl rfl rfl (V_assign rfl rfl) ?_
  refine L_v rfl rfl rfl (V_assign rfl rfl) ?_
  refine L_nil ?_
  change J _ _ _ _
  refine J_ret ?_
  change Kret _ _ _ Exit.ret _
  refine ret2 rfl rfl (RV_t rfl) (RV_t rfl) ?_
  exact fun w' h => RetB.of h rfl 0 rfl rfl rfl hc2 (by simpa using hr2)

theorem refB_no (s : ByteArray) (w : World) (h : ¬ s.size ≤ 65536) :
    Calls Tryd.prog 93 #[.string s] w fun e w' => e = .returned (.tuple #[.slice none 0 0, .int .i64 2]) ∧ Fr [] w w' := by
  refine calls_of (args := [.string s]) ([]) ([]) ([]) Tryd.func93 rfl rfl (okW0 _ _ _ _) ?_
  refine J_seq ?_
  refine J_region ?_
  refine L_v rfl rfl rfl (V_assign rfl rfl) ?_
  refine L_v rfl rfl rfl (V_assign rfl rfl) ?_
  refine L_nil ?_
  change J _ _ _ _
  refine J_seq ?_
  refine J_seq ?_
  refine J_region ?_
  refine L_v rfl rfl rfl (V_move rfl rfl) ?_
  refine L_v rfl rfl rfl (V_lenS rfl rfl Tryd.underlying9 rfl) ?_
  refine L_v rfl rfl rfl (V_gtr rfl rfl rfl (by first | exact decide_eq_true (by omega) | exact decide_eq_false (by omega) | rfl)) ?_
  refine L_nil ?_
  change J _ _ _ _
  refine J_true rfl ?_
  refine J_seq ?_
  refine J_region ?_
  refine L_v rfl rfl rfl (V_assign rfl rfl) ?_
  refine L_v rfl rfl rfl (V_assign rfl rfl) ?_
  refine L_nil ?_
  change J _ _ _ _
  refine J_ret ?_
  change Kret _ _ _ Exit.ret _
  refine ret2 rfl rfl (RV_t rfl) (RV_t rfl) ?_
  exact fun w' h => ⟨rfl, h.fr⟩

theorem groups_o (n : Int) (w : World) :
    Calls Tryd.prog 90 #[.int .i64 n] w fun e w' => ∃ b, e = .returned (.func (.func 100) #[] #[.pointer (some ⟨b, 0, none⟩)]) ∧ Fr [] w w' ∧ w.heap.size ≤ b ∧ w'.heap[b]? = some (row 3 [.int .i64 n]) := by
  refine calls_of (args := [.int .i64 n]) ([]) ([]) ([]) Tryd.func90 rfl rfl (okW0 _ _ _ _) ?_
  refine J_seq ?_
  refine J_region ?_
  refine L_box rfl rfl rfl rfl rfl (fun b0 => ?_)
  refine L_v rfl rfl rfl (V_assign rfl rfl) ?_
  refine L_nil ?_
  change J _ _ _ _
  refine J_seq ?_
  refine J_region ?_
  refine L_v rfl rfl rfl (V_makeFunc rfl rfl rfl) ?_
  refine L_v rfl rfl rfl (V_assign rfl rfl) ?_
  refine L_nil ?_
  change J _ _ _ _
  refine J_ret ?_
  change Kret _ _ _ Exit.ret _
  refine ret1 rfl rfl (RV_t rfl) ?_
  exact fun w' h => ⟨b0, rfl, h.fr, (by simpa using h.may b0 (List.mem_singleton.2 rfl)), h.at (i := 0) rfl⟩

theorem iter_w {Z : Type} (w0 : World) (nt : Nat) (mods : List Nat) (fs : List Fact) (M : Nat → Z → Mem) (Ms : Z → Mem) (priv : Z → Int) (js : Code) (D l : Nat) (r : Loop) (i b : Nat) (n : Int) (z0 : Z) (w : World) (h0 : 0 ≤ n) (h1 : n < 9223372036854775808)
    (hi : ∀ k z, (M k z)[i]? = some (b, row 3 [.int .i64 (priv z)])) (hs : ∀ k z y, ∃ z', priv z' = y ∧ (M k z).set i (b, row 3 [.int .i64 y]) = M k z')
    (hR : RoundsOk { P := Tryd.prog, w0 := w0, nt := nt, mods := mods } fs M Ms priv (grp n).length (fun k => [.int .u8 ((grp n).getD k 0)]) js D l r) (hz : priv z0 = n)
    (hw : OkW { P := Tryd.prog, w0 := w0, nt := nt, mods := mods } (M 0 z0 ++ tl D l r) fs w) :
    Calls Tryd.prog 100 (#[.func (.yield l) #[] #[]] ++ #[.pointer (some ⟨b, 0, none⟩)]) w (IterR { P := Tryd.prog, w0 := w0, nt := nt, mods := mods } fs M Ms (grp n).length js D l r) := by
  have hi' : ∀ k z, (M k z ++ tl D l r)[i]? = some (b, row 3 [.int .i64 (priv z)]) := fun k z => by
    have h2 := hi k z
    rw [List.getElem?_append_left (List.getElem?_eq_some_iff.1 h2).1]
    exact h2
  have hs' : ∀ k z y, ∃ z', priv z' = y ∧ (M k z ++ tl D l r).set i (b, row 3 [.int .i64 y]) = M k z' ++ tl D l r := fun k z y => by
    obtain ⟨z', h2, h3⟩ := hs k z y
    refine ⟨z', h2, ?_⟩
    rw [List.set_append_left _ _ (List.getElem?_eq_some_iff.1 (hi k z)).1, h3]
  refine calls_in (args := [.func (.yield l) #[] #[], .pointer (some ⟨b, 0, none⟩)]) mods (M 0 z0 ++ tl D l r) fs Tryd.func100 rfl rfl (hw.cast rfl rfl) ?_
  refine J_seq ?_
  refine J_block ?_
  refine J_loop (X := Nat × Z) (fun x => { env := [(0, .func (.yield l) #[] #[]), (1, .pointer (some ⟨b, 0, none⟩))], mem := M x.1 x.2 ++ tl D l r, facts := fs }) (fun x => x.1 < (grp n).length ∧ 0 ≤ priv x.2 ∧ ∃ f, priv x.2 < 128 ^ (f + 1) ∧ priv x.2 < 9223372036854775808 ∧ (grp n).drop x.1 = grpF f (priv x.2)) (fun x => (grp n).length - x.1) (0, z0) ⟨by have := (grp_len n).1; show 0 < _; omega, by show 0 ≤ priv z0; omega, 8, by show priv z0 < _; omega, by show priv z0 < _; omega, by show (grp n).drop 0 = _; rw [hz]; rfl⟩ ⟨⟨rfl, rfl, trivial⟩, List.Sublist.refl _, fun f hf => hf, rfl⟩ ?_
  rintro ⟨k, z⟩ ⟨hk, hx0, f, hxf, hx63, hdrop⟩
  simp only at hk hx0 hxf hx63 hdrop ⊢
  have hget : (grp n).getD k 0 = (grpF f (priv z)).getD 0 0 := by
    rw [← hdrop, List.getD_eq_getElem?_getD, List.getD_eq_getElem?_getD, List.getElem?_drop]
    rfl
  refine J_seq ?_
  refine J_seq ?_
  refine J_region ?_
  refine L_v rfl rfl rfl (V_load1 i rfl rfl (hi' k z) Tryd.underlying3 rfl rfl) ?_
  refine L_v rfl rfl rfl (V_geq rfl rfl rfl rfl) ?_
  refine L_nil ?_
  change J _ _ _ _
  refine J_cond rfl (fun hc => ?_) (fun hc => ?_)
  · have hc := of_decide_eq_true hc
    obtain ⟨f', rfl⟩ : ∃ f', f = f' + 1 := by
      cases f with
      | zero => exact absurd hxf (by omega)
      | succ f' => exact ⟨f', rfl⟩
    have hg : grpF (f' + 1) (priv z) = (128 + priv z % 128) :: grpF f' (priv z / 128) := by
      show (if priv z < 128 then _ else _) = _
      rw [if_neg (by omega)]
    rw [hg] at hdrop hget
    have hlen : (grp n).length = k + 1 + (grpF f' (priv z / 128)).length := by
      have := congrArg List.length hdrop
      simp only [List.length_drop, List.length_cons] at this
      omega
    have hl1 := (grpF_len f' (priv z / 128)).1
    refine J_skip ?_
    change J _ _ _ _
    refine J_block ?_
    refine J_seq ?_
    refine J_seq ?_
    refine J_region ?_
    refine L_v rfl rfl rfl (V_move rfl rfl) ?_
    refine L_v rfl rfl rfl (V_load1 i rfl rfl (hi' k z) Tryd.underlying3 rfl rfl) ?_
    refine L_v rfl rfl rfl (V_rem rfl rfl rfl (by omega) (by first | exact r64 (by omega) | rfl)) ?_
    refine L_v rfl rfl rfl (V_add rfl rfl rfl (Go.IntWalk.i64_in _ (by omega))) ?_
    refine L_v rfl rfl rfl (V_conv rfl rfl Tryd.underlying3 Tryd.underlying5 (Go.IntWalk.u8_in _ (by omega))) ?_
    refine L_yield rfl rfl rfl rfl rfl rfl (vs := [.int .u8 ((grp n).getD k 0)]) (by rw [hget, List.getD_cons_zero, Int.add_comm 128]; rfl) (fun w hw => YieldAt.mono (hR k z w hk (hw.cast rfl rfl)) ?_)
    rintro e w' (⟨rfl, z', hz', hw'⟩ | ⟨rfl, z', hw'⟩)
    · refine ⟨_, _, rfl, hw'.cast rfl rfl, ?_⟩
      refine L_v rfl rfl rfl (V_not rfl rfl rfl) ?_
      refine L_nil ?_
      change J _ _ _ _
      refine J_false rfl ?_
      refine J_skip ?_
      change J _ _ _ _
      refine J_region ?_
      refine L_v rfl rfl rfl (V_load1 i rfl rfl (hi' (k + 1) z') Tryd.underlying3 rfl rfl) ?_
      refine L_v rfl rfl rfl (V_quo rfl rfl rfl (by omega) (q64 (by omega) (by omega) (by omega))) ?_
      refine L_store1 i rfl rfl rfl rfl rfl (hi' (k + 1) z') rfl sz3 (by simp) rfl ?_
      refine L_nil ?_
      obtain ⟨z2, hz2, hm2⟩ := hs' (k + 1) z' (priv z' / 128)
      refine ⟨(k + 1, z2), ⟨by show k + 1 < _; omega, by show 0 ≤ priv z2; omega, f', ?_, by show priv z2 < _; omega, ?_⟩, by show _ - (k + 1) < _ - k; omega, ⟨rfl, rfl, trivial⟩, ?_, fun f hf => hf, rfl⟩
      · show priv z2 < _
        rw [hz2, hz']
        rw [Int.pow_succ] at hxf
        omega
      · show (grp n).drop (k + 1) = _
        rw [hz2, hz', ← List.drop_drop, hdrop]
        rfl
      · show List.Sublist (M (k + 1) z2 ++ tl D l r) _
        rw [← hm2]
        exact List.Sublist.refl _
    · refine ⟨_, _, rfl, hw'.cast rfl rfl, ?_⟩
      refine L_v rfl rfl rfl (V_not rfl rfl rfl) ?_
      refine L_nil ?_
      change J _ _ _ _
      refine J_true rfl ?_
      refine J_ret ?_
      change Kret _ _ _ Exit.ret _
      exact ret0 rfl rfl (fun w2 h2 => ⟨⟨_, rfl⟩, .inr ⟨z', h2.cast rfl rfl⟩⟩)
  · have hc := of_decide_eq_false hc
    have hg : grpF f (priv z) = [priv z] := by
      cases f with
      | zero => rfl
      | succ f => show (if priv z < 128 then _ else _) = _; rw [if_pos (by omega)]
    rw [hg] at hdrop hget
    have hlen : (grp n).length = k + 1 := by
      have := congrArg List.length hdrop
      simp only [List.length_drop, List.length_singleton] at this
      omega
    refine J_exit ?_
    change J _ _ _ _
    refine J_region ?_
    refine L_v rfl rfl rfl (V_move rfl rfl) ?_
    refine L_v rfl rfl rfl (V_load1 i rfl rfl (hi' k z) Tryd.underlying3 rfl rfl) ?_
    refine L_v rfl rfl rfl (V_conv rfl rfl Tryd.underlying3 Tryd.underlying5 (Go.IntWalk.u8_in _ (by omega))) ?_
    refine L_yield rfl rfl rfl rfl rfl rfl (vs := [.int .u8 ((grp n).getD k 0)]) (by rw [hget, List.getD_cons_zero]; rfl) (fun w hw => YieldAt.mono (hR k z w hk (hw.cast rfl rfl)) ?_)
    rintro e w' (⟨rfl, z', hz', hw'⟩ | ⟨rfl, z', hw'⟩)
    · refine ⟨_, _, rfl, hw'.cast rfl rfl, ?_⟩
      refine L_nil ?_
      change Kret _ _ _ Exit.normal _
      refine Kret_normal ?_
      refine ret0 rfl rfl (fun w2 h2 => ⟨⟨_, rfl⟩, .inl ⟨z', ?_⟩⟩)
      rw [hlen]
      exact h2.cast rfl rfl
    · refine ⟨_, _, rfl, hw'.cast rfl rfl, ?_⟩
      refine L_nil ?_
      change Kret _ _ _ Exit.normal _
      refine Kret_normal ?_
      exact ret0 rfl rfl (fun w2 h2 => ⟨⟨_, rfl⟩, .inr ⟨z', h2.cast rfl rfl⟩⟩)

end Go.Proofs.YtfdmjjhgdbpfeaaDoor

/- What the functions of layer 1 that put bytes come to: the second part. -/
set_option linter.unusedVariables false
set_option linter.unusedSimpArgs false
set_option maxRecDepth 100000
namespace Go.Proofs.YtfdmjjhgdbpfeaaDoor
open Go.Sx
def pcM (a : Option Addr) (n : Nat) (l L : List Int) (b0 b1 : Nat) : Nat → Int × Nat × List Value → Mem
  | 0, z => [(b0, row 57 [.slice a n n]), (b1, row 3 [.int .i64 z.1])]
  | k + 1, z => [(b0, row 57 [.slice (some ⟨z.2.1, 0, none⟩) (n + (k + 1)) (n + (k + 1) + z.2.2.length)]), (b1, row 3 [.int .i64 z.1]), (z.2.1, row 5 (dg (l ++ L.take (k + 1)) ++ z.2.2))]
theorem sz5p : (Tryd.prog.info? 5).map (·.size) = some 1 := by kernel_rfl
theorem sz57p : (Tryd.prog.info? 57).map (·.size) = some 1 := by kernel_rfl
theorem tx69p : Txt Tryd.prog 69 := txt_of Tryd.func69 rfl (by kernel_rfl)
theorem tx90p : Txt Tryd.prog 90 := txt_of Tryd.func90 rfl (by kernel_rfl)
theorem tx100p : Txt Tryd.prog 100 := txt_of Tryd.func100 rfl (by kernel_rfl)
theorem bz5p : (Tryd.prog.info? 5).map (fun i => (i.zero, i.size)) = some (some (.int .u8 0), 1) := by kernel_rfl
theorem z57p : (Tryd.prog.info? 57).bind (·.zero) = some (.slice none 0 0) := by kernel_rfl

theorem putCount_ok (a : Option Addr) (n c : Nat) (l : List Int) (m : Int) (w0 : World) (hu : SlB w0 (.slice a n c) l) (hn : n ≤ 1099511627776) (hcn : n ≤ c) (h0 : 0 ≤ m) (h1 : m ≤ 2147483647) :
    Calls Tryd.prog 69 #[.slice a n c, .int .i64 m] w0 fun e w' => RetB 5 w0 (l ++ grp m) (n + (grp m).length) (fun s => .tuple #[s, .int .i64 0]) e w' := by
  have hl := hu.size
  have hgl := grp_len m
  obtain ⟨N, hN⟩ : ∃ N, (grp m).length = N + 1 := ⟨(grp m).length - 1, by omega⟩
  rw [hN]
  have htk : (grp m).take (N + 1) = grp m := List.take_of_length_le (by omega)
  refine calls_of_m (args := [.slice a n c, .int .i64 m]) ([]) ([]) ([]) Tryd.func69 rfl rfl (okW0 _ _ _ _) ?_
  refine J_seq ?_
  refine J_region ?_
  refine L_v rfl rfl rfl (V_assign rfl rfl) ?_
  refine L_v rfl rfl rfl (V_assign rfl rfl) ?_
  refine L_nil ?_
  change J _ _ _ _
  refine J_seq ?_
  refine J_seq ?_
  refine J_region ?_
  refine L_v rfl rfl rfl (V_move rfl rfl) ?_
  refine L_v rfl rfl rfl (V_lss rfl rfl rfl (by first | exact decide_eq_true (by omega) | exact decide_eq_false (by omega) | rfl)) ?_
  refine L_v rfl rfl rfl (V_move rfl rfl) ?_
  refine L_wv rfl rfl rfl rfl rfl rfl (V_move rfl rfl) ?_
  refine L_wv rfl rfl rfl rfl rfl rfl (V_gtr rfl rfl rfl (by first | exact decide_eq_true (by omega) | exact decide_eq_false (by omega) | rfl)) ?_
  first | refine L_v rfl rfl rfl (V_pickT rfl rfl rfl) ?_ | refine L_v rfl rfl rfl (V_pickF rfl rfl rfl) ?_
  refine L_nil ?_
  change J _ _ _ _
  refine J_false rfl ?_
  refine J_skip ?_
  change J _ _ _ _
  refine J_seq ?_
  refine J_region ?_
  refine L_v rfl rfl rfl (V_move rfl rfl) ?_
  refine L_v rfl rfl rfl (V_move rfl rfl) ?_
  refine L_v rfl rfl rfl (V_len rfl rfl Tryd.underlying57 rfl) ?_
  refine L_v rfl rfl rfl (V_move rfl rfl) ?_
  refine L_v rfl rfl rfl (V_len rfl rfl Tryd.underlying57 rfl) ?_
  refine L_v rfl rfl rfl (V_slice0 rfl rfl Tryd.underlying57 sz5p ⟨_, rfl⟩ ⟨_, rfl⟩ rfl (by first | omega | (simp; omega)) (by first | omega | (simp; omega))) ?_
  refine L_alloc rfl rfl rfl rfl z57p (fun b0 => ?_)
  refine L_store1 0 rfl rfl rfl rfl rfl rfl rfl sz57p (by first | exact Nat.zero_lt_succ _ | (simp only [dg_length, List.length_append, List.length_take, List.length_drop, zd_length]; omega) | omega) (by first | rfl | exact dg_set _ _ _) ?_
  refine L_nil ?_
  change J _ _ _ _
  refine J_seq ?_
  refine J_seq ?_
  refine J_region ?_
  refine L_v rfl rfl rfl (V_move rfl rfl) ?_
  refine L_call rfl rfl rfl rfl tx90p (fun w hw => (groups_o m w).mono ?_)
  rintro e w' ⟨b1, rfl, hfr, hsz, hb⟩
  refine ⟨_, _, _, rfl, hw.add hfr hb hsz, rfl, ?_⟩
  refine L_nil ?_
  change J _ _ _ _
  refine J_block ?_
  refine J_rangeFunc0 (pcM a n l (grp m) b0 b1) (fun z => z.1) (m, 0, []) (N + 1) (fun k => [.int .u8 ((grp m).getD k 0)]) rfl rfl rfl tx100p (fun _ => rfl) (by intro p hp; obtain rfl := List.mem_singleton.1 hp; rfl) rfl ?_ ?_ ?_
  · intro D lp r w hR hw
    have h := iter_w w0 Tryd.f69.ntmps [] [] (pcM a n l (grp m) b0 b1) (pcM a n l (grp m) b0 b1 (N + 1)) (fun z => z.1) .skip D lp r 1 b1 m (m, 0, []) w (by omega) (by omega) (fun k z => by cases k <;> rfl) (fun k z y => ⟨(y, z.2), rfl, by cases k <;> rfl⟩)
    rw [hN] at h
    exact h hR rfl (hw.cast rfl rfl)
  · rintro D lp r k ⟨zx, zg, zr⟩ hk
    refine J_region ?_
    refine L_v rfl rfl rfl (V_assign rfl rfl) ?_
    refine L_nil ?_
    refine ⟨rfl, rfl, rfl, ?_⟩
    refine J_block ?_
    refine J_region ?_
    have hbv : k < (grp m).length := by omega
    cases k with
    | zero =>
      refine L_v rfl rfl rfl (V_load1 0 rfl rfl rfl Tryd.underlying57 rfl rfl) ?_
      refine L_v rfl rfl rfl (V_move rfl rfl) ?_
      refine L_bs1 rfl rfl rfl rfl rfl Tryd.underlying57 bz5p rfl rfl (fun b2 => ?_)
      refine L_appG (olds := dg l) (news := dg [(grp m).getD 0 0]) (n' := n + 1) (ks' := dg (l ++ (grp m).take 1)) rfl rfl rfl rfl rfl Tryd.underlying57 el (fun w hw => ((SlB.later hw rfl hu).recap n).first) (fun w hw => src_bytes' Tryd.underlying57 (SlB.in hw (l := [(grp m).getD 0 0]) (r := []) (fz := (0, 0)) (List.mem_append_right _ (List.mem_singleton.2 rfl)) rfl 1) rfl) rfl (by rw [take_next hbv, List.take_zero, List.nil_append, dg_append]) (by omega) (by omega) (by omega) (fun g c r hc hr => ?_)
      obtain rfl : c = n + 1 + r.length := by omega
      refine L_store1 0 rfl rfl rfl rfl rfl rfl rfl sz57p (by simp) rfl ?_
      refine L_nil ?_
      exact ⟨rfl, (zx, g, r), rfl, Pk.of_perm (List.Perm.cons _ (List.Perm.cons _ (List.perm_append_comm (l₁ := [_, _]) (l₂ := [_])))) (by repeat (first | exact List.Sublist.slnil | refine List.Sublist.cons_cons _ ?_ | refine List.Sublist.cons _ ?_))⟩
    | succ k =>
      refine L_v rfl rfl rfl (V_load1 0 rfl rfl rfl Tryd.underlying57 rfl rfl) ?_
      refine L_v rfl rfl rfl (V_move rfl rfl) ?_
      refine L_bs1 rfl rfl rfl rfl rfl Tryd.underlying57 bz5p rfl rfl (fun b2 => ?_)
      refine L_appO 2 (dg (l ++ (grp m).take (k + 1))) zr (news := dg [(grp m).getD (k + 1) 0]) (n' := n + (k + 1 + 1)) (ks' := dg (l ++ (grp m).take (k + 1 + 1))) rfl rfl rfl rfl rfl Tryd.underlying57 el rfl (by rw [dg_length, List.length_append, List.length_take, hl, Nat.mul_one, Nat.min_eq_left (by omega)]) (by dsimp only; omega) (by dsimp only; omega) (fun w hw => src_bytes' Tryd.underlying57 (SlB.in hw (l := [(grp m).getD (k + 1) 0]) (r := []) (fz := (0, 0)) (List.mem_append_right _ (List.mem_singleton.2 rfl)) rfl 1) rfl) (Nat.add_assoc n (k + 1) 1) (by rw [take_next hbv, ← List.append_assoc, dg_append (l ++ _)]) (by omega) (by omega) (fun g c r hc hr => ?_)
      obtain rfl : c = n + (k + 1 + 1) + r.length := by omega
      refine L_store1 0 rfl rfl rfl rfl rfl rfl rfl sz57p (by simp) rfl ?_
      refine L_nil ?_
      exact ⟨rfl, (zx, g, r), rfl, Pk.of_sub (by repeat (first | exact List.Sublist.slnil | refine List.Sublist.cons_cons _ ?_ | refine List.Sublist.cons _ ?_))⟩
  · rintro D ⟨zx, zg, zr⟩
    change J _ _ _ _
    refine J_seq ?_
    refine J_region ?_
    refine L_v rfl rfl rfl (V_load1 0 rfl rfl rfl Tryd.underlying57 rfl (by first | rfl | exact dg_get (by omega) (by omega))) ?_
    refine L_v rfl rfl rfl (V_assign rfl rfl) ?_
    refine L_v rfl rfl rfl (V_assign rfl rfl) ?_
    refine L_nil ?_
    change J _ _ _ _
    refine J_ret ?_
    change KretM _ _ _ Exit.ret _
    refine KretM_mark 3 rfl rfl ?_
    refine ret2 rfl rfl (RV_t rfl) (RV_t rfl) ?_
    exact fun w' h => RetB.of (c := n + (N + 1) + zr.length) h rfl 2 (by show some (_, row _ (dg (l ++ (grp m).take (N + 1)) ++ _)) = _; rw [htk]) rfl (by rw [List.length_append]; omega) (by omega) (by dsimp only; omega)

theorem putCount_no (u : Value) (m : Int) (w0 : World) (h : ¬ (0 ≤ m ∧ m ≤ 2147483647)) :
    Calls Tryd.prog 69 #[u, .int .i64 m] w0 fun e w' => e = .returned (.tuple #[.slice none 0 0, .int .i64 1]) ∧ Fr [] w0 w' := by
  refine calls_of_m (args := [u, .int .i64 m]) ([]) ([]) ([]) Tryd.func69 rfl rfl (okW0 _ _ _ _) ?_
  refine J_seq ?_
  refine J_region ?_
  refine L_v rfl rfl rfl (V_assign rfl rfl) ?_
  refine L_v rfl rfl rfl (V_assign rfl rfl) ?_
  refine L_nil ?_
  change J _ _ _ _
  refine J_seq ?_
  refine J_seq ?_
  refine J_region ?_
  refine L_v rfl rfl rfl (V_move rfl rfl) ?_
  refine L_v rfl rfl rfl (V_lss rfl rfl rfl (by first | exact decide_eq_true (by omega) | exact decide_eq_false (by omega) | rfl)) ?_
  refine L_v rfl rfl rfl (V_move rfl rfl) ?_
  refine L_split 10 rfl (fun h1 => ?_) (fun h1 => ?_)
  ·
    first | (have h1 := of_decide_eq_true h1) | (have h1 := of_decide_eq_false h1) | skip
    refine L_skip rfl rfl rfl rfl rfl rfl rfl ?_
    refine L_skip rfl rfl rfl rfl rfl rfl rfl ?_
    first | refine L_v rfl rfl rfl (V_pickT rfl rfl rfl) ?_ | refine L_v rfl rfl rfl (V_pickF rfl rfl rfl) ?_
    refine L_nil ?_
    change J _ _ _ _
    refine J_true rfl ?_
    refine J_seq ?_
    refine J_region ?_
    refine L_v rfl rfl rfl (V_assign rfl rfl) ?_
    refine L_v rfl rfl rfl (V_assign rfl rfl) ?_
    refine L_nil ?_
    change J _ _ _ _
    refine J_ret ?_
    change KretM _ _ _ Exit.ret _
    refine KretM_plain rfl ?_
    refine ret2 rfl rfl (RV_t rfl) (RV_t rfl) ?_
    exact fun w' h => ⟨rfl, h.fr⟩
  ·
    first | (have h1 := of_decide_eq_true h1) | (have h1 := of_decide_eq_false h1) | skip
    refine L_wv rfl rfl rfl rfl rfl rfl (V_move rfl rfl) ?_
    refine L_wv rfl rfl rfl rfl rfl rfl (V_gtr rfl rfl rfl (by first | exact decide_eq_true (by omega) | exact decide_eq_false (by omega) | rfl)) ?_
    first | refine L_v rfl rfl rfl (V_pickT rfl rfl rfl) ?_ | refine L_v rfl rfl rfl (V_pickF rfl rfl rfl) ?_
    refine L_nil ?_
    change J _ _ _ _
    refine J_true rfl ?_
    refine J_seq ?_
    refine J_region ?_
    refine L_v rfl rfl rfl (V_assign rfl rfl) ?_
    refine L_v rfl rfl rfl (V_assign rfl rfl) ?_
    refine L_nil ?_
    change J _ _ _ _
    refine J_ret ?_
    change KretM _ _ _ Exit.ret _
    refine KretM_plain rfl ?_
    refine ret2 rfl rfl (RV_t rfl) (RV_t rfl) ?_
    exact fun w' h => ⟨rfl, h.fr⟩

theorem putBytes_ok (a : Option Addr) (n c : Nat) (l : List Int) (s : ByteArray) (w0 : World) (hu : SlB w0 (.slice a n c) l) (hn : n ≤ 1099511627776) (hcn : n ≤ c) (hs : s.size ≤ 65536) :
    Calls Tryd.prog 58 #[.slice a n c, .string s] w0 fun e w' => RetB 5 w0 (l ++ (grp s.size ++ bs s)) (n + (grp s.size).length + s.size) (fun s => .tuple #[s, .int .i64 0]) e w' := by
  have hl := hu.size
  have hgl := grp_len s.size
  have hbl := bs_length s
  refine calls_of (args := [.slice a n c, .string s]) ([]) ([]) ([]) Tryd.func58 rfl rfl (okW0 _ _ _ _) ?_
  refine J_seq ?_
  refine J_region ?_
  refine L_v rfl rfl rfl (V_assign rfl rfl) ?_
  refine L_v rfl rfl rfl (V_assign rfl rfl) ?_
  refine L_nil ?_
  change J _ _ _ _
  refine J_seq ?_
  refine J_seq ?_
  refine J_region ?_
  refine L_v rfl rfl rfl (V_move rfl rfl) ?_
  refine L_v rfl rfl rfl (V_lenS rfl rfl Tryd.underlying9 rfl) ?_
  refine L_v rfl rfl rfl (V_gtr rfl rfl rfl (by first | exact decide_eq_true (by omega) | exact decide_eq_false (by omega) | rfl)) ?_
  refine L_nil ?_
  change J _ _ _ _
  refine J_false rfl ?_
  refine J_skip ?_
  change J _ _ _ _
  refine J_seq ?_
  refine J_region ?_
  refine L_v rfl rfl rfl (V_move rfl rfl) ?_
  refine L_v rfl rfl rfl (V_move rfl rfl) ?_
  refine L_v rfl rfl rfl (V_lenS rfl rfl Tryd.underlying9 rfl) ?_
  refine L_callB rfl rfl rfl rfl rfl rfl tx69p (fun w hw => putCount_ok a n c l s.size w (SlB.later hw rfl hu) hn hcn (by omega) (by omega)) (fun g1 r1 c1 hl1 hc1 hr1 => ?_)
  refine L_v rfl rfl rfl (V_move rfl rfl) ?_
  refine L_v rfl rfl rfl (V_extract rfl rfl rfl) ?_
  refine L_v rfl rfl rfl (V_extract rfl rfl rfl) ?_
  refine L_v rfl rfl rfl (V_assign rfl rfl) ?_
  refine L_v rfl rfl rfl (V_assign rfl rfl) ?_
  refine L_nil ?_
  change J _ _ _ _
  refine J_seq ?_
  refine J_region ?_
  refine L_v rfl rfl rfl (V_move rfl rfl) ?_
  refine L_v rfl rfl rfl (V_move rfl rfl) ?_
  refine L_appO 0 (dg (l ++ grp s.size)) r1 (n' := n + (grp s.size).length + s.size) (ks' := dg (l ++ (grp s.size ++ bs s))) rfl rfl rfl rfl rfl Tryd.underlying57 el rfl (by rw [dg_length, Nat.mul_one]; exact hl1) (by rw [Nat.mul_one]; exact hr1) hc1 (fun w hw => src_string Tryd.underlying9 _) rfl (by rw [← List.append_assoc, dg_append (l ++ _)]) (by omega) (by omega) (fun g2 c2 r2 hc2 hr2 => ?_)
  refine L_v rfl rfl rfl (V_move rfl rfl) ?_
  refine L_v rfl rfl rfl (V_assign rfl rfl) ?_
  refine L_v rfl rfl rfl (V_assign rfl rfl) ?_
  refine L_nil ?_
  change J _ _ _ _
  refine J_ret ?_
  change Kret _ _ _ Exit.ret _
  refine ret2 rfl rfl (RV_t rfl) (RV_t rfl) ?_
  exact fun w' h => RetB.of h rfl 0 rfl rfl (by simp only [List.length_append]; omega) hc2 (by omega)

theorem putBytes_no (u : Value) (s : ByteArray) (w : World) (hs : ¬ s.size ≤ 65536) :
    Calls Tryd.prog 58 #[u, .string s] w fun e w' => e = .returned (.tuple #[.slice none 0 0, .int .i64 2]) ∧ Fr [] w w' := by
  refine calls_of (args := [u, .string s]) ([]) ([]) ([]) Tryd.func58 rfl rfl (okW0 _ _ _ _) ?_
  refine J_seq ?_
  refine J_region ?_
  refine L_v rfl rfl rfl (V_assign rfl rfl) ?_
  refine L_v rfl rfl rfl (V_assign rfl rfl) ?_
  refine L_nil ?_
  change J _ _ _ _
  refine J_seq ?_
  refine J_seq ?_
  refine J_region ?_
  refine L_v rfl rfl rfl (V_move rfl rfl) ?_
  refine L_v rfl rfl rfl (V_lenS rfl rfl Tryd.underlying9 rfl) ?_
  refine L_v rfl rfl rfl (V_gtr rfl rfl rfl (by first | exact decide_eq_true (by omega) | exact decide_eq_false (by omega) | rfl)) ?_
  refine L_nil ?_
  change J _ _ _ _
  refine J_true rfl ?_
  refine J_seq ?_
  refine J_region ?_
  refine L_v rfl rfl rfl (V_assign rfl rfl) ?_
  refine L_v rfl rfl rfl (V_assign rfl rfl) ?_
  refine L_nil ?_
  change J _ _ _ _
  refine J_ret ?_
  change Kret _ _ _ Exit.ret _
  refine ret2 rfl rfl (RV_t rfl) (RV_t rfl) ?_
  exact fun w' h => ⟨rfl, h.fr⟩

theorem putDigest_w (a : Option Addr) (n c : Nat) (l : List Int) (d : List Int) (w0 : World) (hu : SlB w0 (.slice a n c) l) (hn : n ≤ 1099511627776) (hcn : n ≤ c) (hd : d.length = 32) :
    Calls Tryd.prog 70 #[.slice a n c, .agg (dg d).toArray] w0 fun e w' => RetB 5 w0 (l ++ d) (n + 32) id e w' := by
  have hl := hu.size
  refine calls_of (args := [.slice a n c, .agg (dg d).toArray]) ([]) ([]) ([]) Tryd.func70 rfl rfl (okW0 _ _ _ _) ?_
  refine J_seq ?_
  refine J_region ?_
  refine L_box rfl rfl rfl rfl rfl (fun b0 => ?_)
  refine L_v rfl rfl rfl (V_assign rfl rfl) ?_
  refine L_nil ?_
  change J _ _ _ _
  refine J_seq ?_
  refine J_regionT 7 rfl (by kernel_rfl) ?_
  refine LQ_v rfl rfl rfl (V_move rfl rfl) ?_
  refine LQ_v rfl rfl rfl (V_move rfl rfl) ?_
  refine LQ_v rfl rfl rfl (V_len rfl rfl Tryd.underlying57 rfl) ?_
  refine LQ_v rfl rfl rfl (V_move rfl rfl) ?_
  refine LQ_v rfl rfl rfl (V_len rfl rfl Tryd.underlying57 rfl) ?_
  refine LQ_v rfl rfl rfl (V_slice0 rfl rfl Tryd.underlying57 sz5p ⟨_, rfl⟩ ⟨_, rfl⟩ rfl (by first | omega | (simp; omega)) (by first | omega | (simp; omega))) ?_
  refine LQ_v rfl rfl rfl (V_sliceArr rfl rfl Tryd.underlying26 sz5p) ?_
  refine LQ_nil ?_
  refine L_appG (olds := dg l) (n' := n + 32) (ks' := dg (l ++ d)) rfl rfl rfl rfl rfl Tryd.underlying57 el (fun w hw => ((SlB.later hw rfl hu).recap n).first) (fun w hw => src_bytes' Tryd.underlying57 (SlB.of_mem' hw (i := 0) rfl hd 32) hd) rfl (dg_append _ _).symm (by omega) (by omega) (by omega) (fun g2 c2 r2 hc2 hr2 => ?_)
  refine L_v rfl rfl rfl (V_assign rfl rfl) ?_
  refine L_nil ?_
  change J _ _ _ _
  refine J_ret ?_
  change Kret _ _ _ Exit.ret _
  refine ret1 rfl rfl (RV_t rfl) ?_
  exact fun w' h => RetB.of h rfl 1 rfl rfl (by rw [List.length_append]; omega) hc2 (by omega)

end Go.Proofs.YtfdmjjhgdbpfeaaDoor

/- What the functions of layer 9 that lay a head come to. -/
set_option linter.unusedVariables false
set_option linter.unusedSimpArgs false
set_option maxRecDepth 100000
namespace Go.Proofs.YtfdmjjhgdbpfeaaDoor
open Go.Sx
def hdL (e : Int) (r p : List Int) : List Value := .int .i64 e :: (dg r ++ dg p)
theorem hdL_len {e : Int} {r p : List Int} (hr : r.length = 32) (hp : p.length = 32) : (hdL e r p).length = 65 := by simp [hdL, dg_length, hr, hp]
theorem hd_root {e : Int} {r p : List Int} (hr : r.length = 32) : ∀ j, j < (dg r).length → (hdL e r p)[1 + j]? = (dg r)[j]? := by
  intro j hj
  rw [Nat.add_comm]
  show (dg r ++ dg p)[j]? = _
  rw [List.getElem?_append_left hj]
theorem hd_prev {e : Int} {r p : List Int} (hr : r.length = 32) : ∀ j, j < (dg p).length → (hdL e r p)[33 + j]? = (dg p)[j]? := by
  intro j hj
  rw [show 33 + j = (32 + j) + 1 by omega]
  show (dg r ++ dg p)[32 + j]? = _
  rw [List.getElem?_append_right (by rw [dg_length]; omega), dg_length, hr]
  congr 1
  omega
theorem hd_one (e : Int) (r p : List Int) : ∀ u ∈ hdL e r p, u.oneCell' = true := by
  intro u hu
  rcases List.mem_cons.1 hu with rfl | hu
  · rfl
  · rcases List.mem_append.1 hu with h | h
    · exact dg_one _ u h
    · exact dg_one _ u h
theorem hd_getR {e : Int} {r p : List Int} {i : Nat} (h : i < r.length) : (hdL e r p)[1 + i]? = some (.int .u8 (r.getD i 0)) := by
  rw [Nat.add_comm]
  show (dg r ++ dg p)[i]? = _
  rw [List.getElem?_append_left (by rw [dg_length]; exact h)]
  simp [dg, h]
theorem hd_getP {e : Int} {r p : List Int} {i : Nat} (hr : r.length = 32) (h : i < p.length) : (hdL e r p)[33 + i]? = some (.int .u8 (p.getD i 0)) := by
  rw [hd_prev hr i (by rw [dg_length]; exact h)]
  simp [dg, h]
theorem hd_setR {e : Int} {r p : List Int} {i : Nat} (h : i < r.length) (x : Int) : (hdL e r p).set (1 + i) (.int .u8 x) = hdL e (r.set i x) p := by
  rw [Nat.add_comm]
  show _ :: (dg r ++ dg p).set i _ = _
  rw [List.set_append_left _ _ (by rw [dg_length]; exact h), dg_set]
  rfl
theorem hd_setP {e : Int} {r p : List Int} {i : Nat} (hr : r.length = 32) (x : Int) : (hdL e r p).set (33 + i) (.int .u8 x) = hdL e r (p.set i x) := by
  rw [show 33 + i = (32 + i) + 1 by omega]
  show _ :: (dg r ++ dg p).set (32 + i) _ = _
  rw [List.set_append_right _ _ (by rw [dg_length]; omega), dg_length, hr, show 32 + i - 32 = i by omega, dg_set]
  rfl
theorem bdH0 (w : World) : (Instr.build 30 ([] : List (Nat × Value)).toArray).run Tryd.prog w = .ok (.agg (hdL 0 zd zd).toArray) w := by kernel_rfl
theorem bdH1 (w : World) : (Instr.build 30 [(0, .int .i64 1)].toArray).run Tryd.prog w = .ok (.agg (hdL 1 zd zd).toArray) w := by kernel_rfl
theorem sz3h : (Tryd.prog.info? 3).map (·.size) = some 1 := by kernel_rfl
theorem sz26h : (Tryd.prog.info? 26).map (·.size) = some 32 := by kernel_rfl
theorem tx69h : Txt Tryd.prog 69 := txt_of Tryd.func69 rfl (by kernel_rfl)
theorem tx70h : Txt Tryd.prog 70 := txt_of Tryd.func70 rfl (by kernel_rfl)

theorem hbytes_ok (er : Int) (r p : List Int) (w : World) (hr : r.length = 32) (hp : p.length = 32) (h0 : 1 ≤ er) (h1 : er ≤ 200) :
    Calls Tryd.prog 40 #[.agg (hdL er r p).toArray] w fun e w' => RetB 5 w ([] ++ grp er ++ r ++ p) (0 + (grp er).length + 32 + 32) (fun s => .tuple #[s, .int .i64 0]) e w' := by
  have hgl := grp_len er
  refine calls_of (args := [.agg (hdL er r p).toArray]) ([]) ([]) ([]) Tryd.func40 rfl rfl (okW0 _ _ _ _) ?_
  refine J_seq ?_
  refine J_region ?_
  refine L_box rfl rfl rfl rfl rfl (fun b0 => ?_)
  refine L_v rfl rfl rfl (V_assign rfl rfl) ?_
  refine L_v rfl rfl rfl (V_assign rfl rfl) ?_
  refine L_nil ?_
  change J _ _ _ _
  refine J_seq ?_
  refine J_seq ?_
  refine J_region ?_
  refine L_v rfl rfl rfl (V_fieldAddr rfl rfl Tryd.underlying30 rfl sz3h rfl) ?_
  refine L_v rfl rfl rfl (V_load1 0 rfl rfl rfl Tryd.underlying3 rfl (by first | rfl | exact dg_get (by omega) (by omega))) ?_
  refine L_v rfl rfl rfl (V_lss rfl rfl rfl (by first | exact decide_eq_true (by omega) | exact decide_eq_false (by omega) | rfl)) ?_
  refine L_v rfl rfl rfl (V_move rfl rfl) ?_
  refine L_wv rfl rfl rfl rfl rfl rfl (V_fieldAddr rfl rfl Tryd.underlying30 rfl sz3h rfl) ?_
  refine L_wv rfl rfl rfl rfl rfl rfl (V_load1 0 rfl rfl rfl Tryd.underlying3 rfl (by first | rfl | exact dg_get (by omega) (by omega))) ?_
  refine L_wv rfl rfl rfl rfl rfl rfl (V_gtr rfl rfl rfl (by first | exact decide_eq_true (by omega) | exact decide_eq_false (by omega) | rfl)) ?_
  first | refine L_v rfl rfl rfl (V_pickT rfl rfl rfl) ?_ | refine L_v rfl rfl rfl (V_pickF rfl rfl rfl) ?_
  refine L_nil ?_
  change J _ _ _ _
  refine J_false rfl ?_
  refine J_skip ?_
  change J _ _ _ _
  refine J_seq ?_
  refine J_region ?_
  refine L_v rfl rfl rfl (V_fieldAddr rfl rfl Tryd.underlying30 rfl sz3h rfl) ?_
  refine L_v rfl rfl rfl (V_load1 0 rfl rfl rfl Tryd.underlying3 rfl (by first | rfl | exact dg_get (by omega) (by omega))) ?_
  refine L_callB rfl rfl rfl rfl rfl rfl tx69h (fun w hw => putCount_ok none 0 0 [] er w (SlB.nil _ _) (by omega) (Nat.le_refl _) (by omega) (by omega)) (fun g1 r1 c1 hl1 hc1 hr1 => ?_)
  refine L_v rfl rfl rfl (V_move rfl rfl) ?_
  refine L_v rfl rfl rfl (V_extract rfl rfl rfl) ?_
  refine L_v rfl rfl rfl (V_extract rfl rfl rfl) ?_
  refine L_v rfl rfl rfl (V_assign rfl rfl) ?_
  refine L_v rfl rfl rfl (V_assign rfl rfl) ?_
  refine L_nil ?_
  change J _ _ _ _
  refine J_seq ?_
  refine J_regionO (.pure 0 (.pure 1 (.pure 2 (.pure 4 (.pure 5 (.one 3 (.one 6 (.pure 7 (.pure 8 (.nil)))))))))) _ _ (Pk.refl _) (fun f hf => hf) rfl rfl (by kernel_rfl) ?_
  refine LO_v rfl rfl rfl rfl (V_move rfl rfl) ?_
  refine LO_v rfl rfl rfl rfl (V_fieldAddr rfl rfl Tryd.underlying30 rfl sz26h rfl) ?_
  refine LO_v rfl rfl rfl rfl (V_loadP 0 (vs := dg r) rfl rfl rfl Tryd.underlying26 rfl (szd sz26h (by rw [dg_length]; assumption)) (hd_root hr)) ?_
  refine LO_v rfl rfl rfl rfl (V_fieldAddr rfl rfl Tryd.underlying30 rfl sz26h rfl) ?_
  refine LO_v rfl rfl rfl rfl (V_loadP 0 (vs := dg p) rfl rfl rfl Tryd.underlying26 rfl (szd sz26h (by rw [dg_length]; assumption)) (hd_prev hr)) ?_
  refine LO_callB rfl rfl rfl rfl rfl rfl rfl rfl tx70h (fun w hw => putDigest_w (some ⟨g1, 0, none⟩) (0 + (grp er).length) c1 ([] ++ grp er) r w (SlB.of_own hw (i := 1) rfl hl1 c1) (by omega) hc1 hr) (Pk.refl _) (fun f hf => hf) (fun g2 r2 c2 hl2 hc2 hr2 => ?_)
  refine LO_callB rfl rfl rfl rfl rfl rfl rfl rfl tx70h (fun w hw => putDigest_w (some ⟨g2, 0, none⟩) (0 + (grp er).length + 32) c2 ([] ++ grp er ++ r) p w (SlB.of_own hw (i := 2) rfl hl2 c2) (by omega) hc2 hp) (Pk.app (Pk.refl _) _) (fun f hf => hf) (fun g3 r3 c3 hl3 hc3 hr3 => ?_)
  refine LO_v rfl rfl rfl rfl (V_assign rfl rfl) ?_
  refine LO_v rfl rfl rfl rfl (V_assign rfl rfl) ?_
  refine LO_nil ?_
  change J _ _ _ _
  refine J_ret ?_
  change Kret _ _ _ Exit.ret _
  refine ret2 rfl rfl (RV_t rfl) (RV_t rfl) ?_
  exact fun w' h => RetB.of h rfl 3 rfl rfl hl3 hc3 hr3

theorem hbytes_no (er : Int) (r p : List Int) (w : World) (hr : r.length = 32) (hp : p.length = 32) (h : ¬ (1 ≤ er ∧ er ≤ 200)) :
    Calls Tryd.prog 40 #[.agg (hdL er r p).toArray] w fun e w' => e = .returned (.tuple #[.slice none 0 0, .int .i64 80]) ∧ Fr [] w w' := by
  refine calls_of (args := [.agg (hdL er r p).toArray]) ([]) ([]) ([]) Tryd.func40 rfl rfl (okW0 _ _ _ _) ?_
  refine J_seq ?_
  refine J_region ?_
  refine L_box rfl rfl rfl rfl rfl (fun b0 => ?_)
  refine L_v rfl rfl rfl (V_assign rfl rfl) ?_
  refine L_v rfl rfl rfl (V_assign rfl rfl) ?_
  refine L_nil ?_
  change J _ _ _ _
  refine J_seq ?_
  refine J_seq ?_
  refine J_region ?_
  refine L_v rfl rfl rfl (V_fieldAddr rfl rfl Tryd.underlying30 rfl sz3h rfl) ?_
  refine L_v rfl rfl rfl (V_load1 0 rfl rfl rfl Tryd.underlying3 rfl (by first | rfl | exact dg_get (by omega) (by omega))) ?_
  refine L_v rfl rfl rfl (V_lss rfl rfl rfl (by first | exact decide_eq_true (by omega) | exact decide_eq_false (by omega) | rfl)) ?_
  refine L_v rfl rfl rfl (V_move rfl rfl) ?_
  refine L_split 9 rfl (fun h1 => ?_) (fun h1 => ?_)
  ·
    first | (have h1 := of_decide_eq_true h1) | (have h1 := of_decide_eq_false h1) | skip
    refine L_skip rfl rfl rfl rfl rfl rfl rfl ?_
    refine L_skip rfl rfl rfl rfl rfl rfl rfl ?_
    refine L_skip rfl rfl rfl rfl rfl rfl rfl ?_
    first | refine L_v rfl rfl rfl (V_pickT rfl rfl rfl) ?_ | refine L_v rfl rfl rfl (V_pickF rfl rfl rfl) ?_
    refine L_nil ?_
    change J _ _ _ _
    refine J_true rfl ?_
    refine J_seq ?_
    refine J_region ?_
    refine L_v rfl rfl rfl (V_assign rfl rfl) ?_
    refine L_v rfl rfl rfl (V_assign rfl rfl) ?_
    refine L_nil ?_
    change J _ _ _ _
    refine J_ret ?_
    change Kret _ _ _ Exit.ret _
    refine ret2 rfl rfl (RV_t rfl) (RV_t rfl) ?_
    exact fun w' h => ⟨rfl, h.fr⟩
  ·
    first | (have h1 := of_decide_eq_true h1) | (have h1 := of_decide_eq_false h1) | skip
    refine L_wv rfl rfl rfl rfl rfl rfl (V_fieldAddr rfl rfl Tryd.underlying30 rfl sz3h rfl) ?_
    refine L_wv rfl rfl rfl rfl rfl rfl (V_load1 0 rfl rfl rfl Tryd.underlying3 rfl (by first | rfl | exact dg_get (by omega) (by omega))) ?_
    refine L_wv rfl rfl rfl rfl rfl rfl (V_gtr rfl rfl rfl (by first | exact decide_eq_true (by omega) | exact decide_eq_false (by omega) | rfl)) ?_
    first | refine L_v rfl rfl rfl (V_pickT rfl rfl rfl) ?_ | refine L_v rfl rfl rfl (V_pickF rfl rfl rfl) ?_
    refine L_nil ?_
    change J _ _ _ _
    refine J_true rfl ?_
    refine J_seq ?_
    refine J_region ?_
    refine L_v rfl rfl rfl (V_assign rfl rfl) ?_
    refine L_v rfl rfl rfl (V_assign rfl rfl) ?_
    refine L_nil ?_
    change J _ _ _ _
    refine J_ret ?_
    change Kret _ _ _ Exit.ret _
    refine ret2 rfl rfl (RV_t rfl) (RV_t rfl) ?_
    exact fun w' h => ⟨rfl, h.fr⟩

end Go.Proofs.YtfdmjjhgdbpfeaaDoor
