/- What the reference of layer 3 makes of a key and bytes; two digests. -/
import Derived.Test.YtbckeoidnpfbnaaDoorMac
set_option linter.unusedVariables false
set_option linter.unusedSimpArgs false
set_option maxRecDepth 100000
namespace Go.Proofs.YtbckeoidnpfbnaaDoor
open Go.Sx
theorem rsum_b (L : List Int) (a : Option Addr) (n c : Nat) (w : World) (hu : SlB w (.slice a n c) L) (hby : Byt L) (hK : TabK KT 1 w) (hsz : L.length ≤ 1099511627000) {d : List Int} (h : shaP L = d) : Calls Tryd.prog 42 #[.slice a n c] w fun e w' => e = .returned (.agg (dg d).toArray) ∧ Fr [] w w' := by
  subst h
  exact rsum_w L a n c w hu hby hK hsz
theorem sz5n : (Tryd.prog.info? 5).map (·.size) = some 1 := by kernel_rfl
theorem sz23n : (Tryd.prog.info? 23).map (·.size) = some 32 := by kernel_rfl
theorem tx42n : Txt Tryd.prog 42 := txt_of Tryd.func42 rfl (by kernel_rfl)
theorem bz5n : (Tryd.prog.info? 5).map (fun i => (i.zero, i.size)) = some (some (.int .u8 0), 1) := by kernel_rfl
theorem z23n : (Tryd.prog.info? 23).bind (·.zero) = some (.agg (dg zd).toArray) := by kernel_rfl
theorem z58n : (Tryd.prog.info? 58).bind (·.zero) = some (.agg (dg (List.replicate 64 0)).toArray) := by kernel_rfl

set_option maxHeartbeats 1000000 in
theorem rmac_w (key : List Int) (a : Option Addr) (n c : Nat) (l2 : List Int) (a2 : Option Addr) (n2 c2 : Nat) (w : World) (hu : SlB w (.slice a n c) key) (hby : Byt key) (hu2 : SlB w (.slice a2 n2 c2) l2) (hby2 : Byt l2) (hR : TabK KT 1 w) (hsz : key.length ≤ 1099511626000) (hsz2 : l2.length ≤ 1099511626000) :
    Calls Tryd.prog 33 #[.slice a n c, .slice a2 n2 c2] w fun e w' => e = .returned (.agg (dg (macP key l2)).toArray) ∧ Fr [] w w' := by
  have hul := hu.size
  have hul2 := hu2.size
  have h54 : (kx 54 (kp key)).length = 64 := by rw [kx_len, kp_len]
  have h92 : (kx 92 (kp key)).length = 64 := by rw [kx_len, kp_len]
  obtain ⟨DD, hDe⟩ : ∃ DD, DD = shaP (kx 54 (kp key) ++ l2) := ⟨_, rfl⟩
  have hDD : DD.length = 32 := by rw [hDe]; exact shaP_len _
  have hDb : Byt DD := by rw [hDe]; exact shaP_byt _
  have hkl := kp_len key
  have hkz : (List.replicate 64 (0 : Int)).length = 64 := rfl
  refine calls_of (args := [.slice a n c, .slice a2 n2 c2]) ([]) ([]) ([]) Tryd.func33 rfl rfl (okW0 _ _ _ _) ?_
  refine J_seq ?_
  refine J_region ?_
  refine L_alloc rfl rfl rfl rfl z23n (fun b0 => ?_)
  refine L_nil ?_
  change J _ _ _ _
  refine J_seq ?_
  refine J_region ?_
  refine L_alloc rfl rfl rfl rfl z58n (fun b1 => ?_)
  refine L_nil ?_
  change J _ _ _ _
  refine J_seq ?_
  refine J_seq ?_
  refine J_region ?_
  refine L_v rfl rfl rfl (V_move rfl rfl) ?_
  refine L_v rfl rfl rfl (V_len rfl rfl Tryd.underlying26 rfl) ?_
  refine L_v rfl rfl rfl (V_gtr rfl rfl rfl (by first | exact decide_eq_true (by omega) | exact decide_eq_false (by omega) | rfl)) ?_
  refine L_nil ?_
  change J _ _ _ _
  refine J_cond rfl (fun h1 => ?_) (fun h1 => ?_)
  ·
    first | (have h1 := h1; rw [decide_eq_true_eq] at h1) | (have h1 := h1; rw [decide_eq_false_iff_not] at h1) | skip
    have hkk0 : kk key = (shaP key) := by unfold kk; rw [if_pos (by omega)]
    have hl0 : (shaP key).length = 32 := shaP_len key
    refine J_seq ?_
    refine J_region ?_
    refine L_v rfl rfl rfl (V_move rfl rfl) ?_
    refine L_callV rfl rfl rfl rfl rfl rfl tx42n (fun w1 hw => rsum_w key a n c w1 (SlB.later hw rfl hu) hby (TabK.later hw (by simp) hR) (by omega)) ?_
    refine L_alloc rfl rfl rfl rfl z23n (fun b2 => ?_)
    refine L_storeW 2 rfl rfl rfl rfl rfl rfl (szd sz23n (by first | (rw [dg_length]; exact shaP_len _) | (rw [dg_length]; exact macP_len _ _) | (rw [dg_length, dg_length, hDD]; rfl) | (rw [dg_length, dg_length, shaP_len]; rfl) | (rw [dg_length, dg_length, macP_len]; rfl) | rfl | (rw [dg_length]; assumption))) (dg_one _) (by first | (rw [dg_length]; exact shaP_len _) | (rw [dg_length]; exact macP_len _ _) | (rw [dg_length, dg_length, hDD]; rfl) | (rw [dg_length, dg_length, shaP_len]; rfl) | (rw [dg_length, dg_length, macP_len]; rfl) | rfl | (rw [dg_length]; assumption)) ?_
    refine L_nil ?_
    change J _ _ _ _
    refine J_region ?_
    refine L_v rfl rfl rfl (V_sliceArr rfl rfl Tryd.underlying23 sz5n) ?_
    refine L_v rfl rfl rfl (V_assign rfl rfl) ?_
    refine L_nil ?_
    change J _ _ _ _
    refine J_seq ?_
    refine J_seq ?_
    refine J_region ?_
    refine L_v rfl rfl rfl (V_assign rfl rfl) ?_
    refine L_nil ?_
    change J _ _ _ _
    refine J_block ?_
    refine J_loop (X := Nat) (fun i => { env := [(0, .slice (some ⟨b2, 0, none⟩) 32 32), (1, .slice a2 n2 c2), (4, .pointer (some ⟨b0, 0, none⟩)), (5, .pointer (some ⟨b1, 0, none⟩)), (7, .int .i64 (i : Int))], mem := [(b0, row 23 (dg zd)), (b1, row 58 (dg ((shaP key).take i ++ (List.replicate 64 (0 : Int)).drop i))), (b2, row 23 (dg (shaP key)))] }) (fun i => i ≤ 32) (fun i => 32 - i) 0 (Nat.zero_le _) ⟨⟨rfl, rfl, rfl, rfl, rfl, trivial⟩, (by show List.Sublist (_ :: (b1, row 58 (dg (List.take 0 (shaP key) ++ List.drop 0 (List.replicate 64 (0 : Int))))) :: _) _; rw [List.take_zero, List.drop_zero, List.nil_append]; exact List.Sublist.refl _), fun f hf => hf, rfl⟩ ?_
    rintro i hi
    refine J_seq ?_
    refine J_seq ?_
    refine J_region ?_
    refine L_v rfl rfl rfl (V_move rfl rfl) ?_
    refine L_v rfl rfl rfl (V_move rfl rfl) ?_
    refine L_v rfl rfl rfl (V_len rfl rfl Tryd.underlying26 rfl) ?_
    refine L_v rfl rfl rfl (V_lss rfl rfl rfl (by first | exact decide_eq_true (by omega) | exact decide_eq_false (by omega) | rfl)) ?_
    refine L_nil ?_
    change J _ _ _ _
    refine J_cond rfl (fun h2 => ?_) (fun h2 => ?_)
    ·
      first | (have h2 := h2; rw [decide_eq_true_eq] at h2) | (have h2 := h2; rw [decide_eq_false_iff_not] at h2) | skip
      have hgd : (shaP key).getD ((i : Nat) : Int).toNat 0 = (shaP key).getD i 0 := by rw [Int.toNat_natCast]
      refine J_skip ?_
      change J _ _ _ _
      refine J_seq ?_
      refine J_block ?_
      refine J_region ?_
      refine L_v rfl rfl rfl (V_move rfl rfl) ?_
      refine L_v rfl rfl rfl (V_move rfl rfl) ?_
      refine L_v rfl rfl rfl (V_move rfl rfl) ?_
      refine L_v rfl rfl rfl (V_indexB rfl rfl rfl Tryd.underlying26 sz5n (fun w hw => SlB.of_mem' hw (i := 2) rfl (shaP_len key) 32) (by omega) (by omega)) ?_
      refine L_v rfl rfl rfl (V_loadB rfl rfl Tryd.underlying5 rfl (fun w hw => SlB.of_mem' hw (i := 2) rfl (shaP_len key) 32) (by omega) hgd) ?_
      refine L_v rfl rfl rfl (V_indexArr (off' := i) rfl rfl rfl Tryd.underlying58 sz5n (by omega) (by omega) (show 0 + ((i : Nat) : Int).toNat * 1 = i by omega)) ?_
      refine L_store1 1 rfl rfl rfl rfl rfl rfl rfl sz5n (by rw [dg_length, List.length_append, List.length_take, List.length_drop]; omega) (by rw [dg_set, take_setK (by omega) (by omega)]) ?_
      refine L_nil ?_
      change J _ _ _ _
      refine J_region ?_
      refine L_v rfl rfl rfl (V_move rfl rfl) ?_
      refine L_v rfl rfl rfl (V_add rfl rfl rfl (by first | exact Go.IntWalk.i64_in _ (by omega) | rfl)) ?_
      refine L_v rfl rfl rfl (V_assign rfl rfl) ?_
      refine L_nil ?_
      exact ⟨i + 1, by omega, by omega, ⟨rfl, rfl, rfl, rfl, rfl, trivial⟩, List.Sublist.refl _, fun f hf => hf, rfl⟩
    ·
      first | (have h2 := h2; rw [decide_eq_true_eq] at h2) | (have h2 := h2; rw [decide_eq_false_iff_not] at h2) | skip
      obtain rfl : i = 32 := by omega
      have hkd := kp_done hkk0
      rw [hl0] at hkd
      rw [hkd]
      refine J_exit ?_
      change J _ _ _ _
      refine J_seq ?_
      refine J_region ?_
      refine L_v rfl rfl rfl (V_assign rfl rfl) ?_
      refine L_nil ?_
      change J _ _ _ _
      refine J_seq ?_
      refine J_region ?_
      refine L_v rfl rfl rfl (V_assign rfl rfl) ?_
      refine L_nil ?_
      change J _ _ _ _
      refine J_seq ?_
      refine J_seq ?_
      refine J_region ?_
      refine L_v rfl rfl rfl (V_assign rfl rfl) ?_
      refine L_nil ?_
      change J _ _ _ _
      refine J_block ?_
      refine J_loop (X := Nat × OwnR × OwnR) (fun x => { env := [(1, .slice a2 n2 c2), (4, .pointer (some ⟨b0, 0, none⟩)), (5, .pointer (some ⟨b1, 0, none⟩)), (8, ownV x.2.1 x.1), (9, ownV x.2.2 x.1), (10, .int .i64 (x.1 : Int))], mem := [(b0, row 23 (dg zd)), (b1, row 58 (dg (kp key)))] ++ (ownM 5 x.2.1 (dg (kx 54 ((kp key).take x.1))) ++ ownM 5 x.2.2 (dg (kx 92 ((kp key).take x.1)))) }) (fun x => x.1 ≤ 64 ∧ OwnC 1 x.2.1 x.1 (dg (kx 54 ((kp key).take x.1))) ∧ OwnC 1 x.2.2 x.1 (dg (kx 92 ((kp key).take x.1)))) (fun x => 64 - x.1) (0, none, none) ⟨Nat.zero_le _, ⟨rfl, rfl⟩, ⟨rfl, rfl⟩⟩ ⟨⟨rfl, rfl, rfl, rfl, rfl, rfl, trivial⟩, List.Sublist.cons_cons _ (List.Sublist.cons_cons _ (List.nil_sublist _)), fun f hf => hf, rfl⟩ ?_
      rintro ⟨i, q1, q2⟩ ⟨hi, hq1, hq2⟩
      simp only at hi hq1 hq2 ⊢
      refine J_seq ?_
      refine J_seq ?_
      refine J_region ?_
      refine L_v rfl rfl rfl (V_move rfl rfl) ?_
      refine L_v rfl rfl rfl (V_lss rfl rfl rfl (by first | exact decide_eq_true (by omega) | exact decide_eq_false (by omega) | rfl)) ?_
      refine L_nil ?_
      change J _ _ _ _
      refine J_cond rfl (fun h3 => ?_) (fun h3 => ?_)
      ·
        first | (have h3 := h3; rw [decide_eq_true_eq] at h3) | (have h3 := h3; rw [decide_eq_false_iff_not] at h3) | skip
        refine J_skip ?_
        change J _ _ _ _
        refine J_seq ?_
        refine J_block ?_
        refine J_seq ?_
        refine J_region ?_
        refine L_v rfl rfl rfl (V_move rfl rfl) ?_
        refine L_v rfl rfl rfl (V_move rfl rfl) ?_
        refine L_v rfl rfl rfl (V_indexArr (off' := i) rfl rfl rfl Tryd.underlying58 sz5n (by omega) (by omega) (show 0 + ((i : Nat) : Int).toNat * 1 = i by omega)) ?_
        refine L_v rfl rfl rfl (V_load1 1 rfl rfl rfl Tryd.underlying5 rfl (dgD (by omega))) ?_
        refine L_v rfl rfl rfl (V_xor (r := xb 54 ((kp key).getD i 0)) rfl rfl rfl rfl) ?_
        refine L_bs1 rfl rfl rfl rfl rfl Tryd.underlying26 bz5n rfl rfl (fun b3 => ?_)
        refine L_appN [(b0, row 23 (dg zd)), (b1, row 58 (dg (kp key)))] (ownM 5 q2 (dg (kx 92 ((kp key).take i))) ++ [(b3, row 5 [.int .u8 (xb 54 ((kp key).getD i 0))])]) q1 (dg (kx 54 ((kp key).take i))) (n' := i + 1) (ks' := dg (kx 54 ((kp key).take (i + 1)))) rfl rfl rfl rfl rfl Tryd.underlying26 elj (by show (_ ++ (_ ++ _)) ++ _ = _; simp only [List.append_assoc]) hq1 (fun w hw => src_bytes' Tryd.underlying26 (SlB.in hw (l := [xb 54 ((kp key).getD i 0)]) (r := []) (fz := (0, 0)) (List.mem_append_right _ (List.mem_singleton.2 rfl)) rfl 1) rfl) rfl (by first | (rw [kx_next (by omega), dg_append]; done) | (rw [kx_next (by omega), dg_append]; rfl)) (by omega) (by omega) (fun q1' hq1' => ?_)
        refine L_v rfl rfl rfl (V_assign rfl rfl) ?_
        refine L_nil ?_
        change J _ _ _ _
        refine J_region ?_
        refine L_v rfl rfl rfl (V_move rfl rfl) ?_
        refine L_v rfl rfl rfl (V_move rfl rfl) ?_
        refine L_v rfl rfl rfl (V_indexArr (off' := i) rfl rfl rfl Tryd.underlying58 sz5n (by omega) (by omega) (show 0 + ((i : Nat) : Int).toNat * 1 = i by omega)) ?_
        refine L_v rfl rfl rfl (V_load1 1 rfl rfl rfl Tryd.underlying5 rfl (dgD (by omega))) ?_
        refine L_v rfl rfl rfl (V_xor (r := xb 92 ((kp key).getD i 0)) rfl rfl rfl rfl) ?_
        refine L_bs1 rfl rfl rfl rfl rfl Tryd.underlying26 bz5n rfl rfl (fun b4 => ?_)
        refine L_appN ([(b0, row 23 (dg zd)), (b1, row 58 (dg (kp key)))] ++ ownM 5 q1' (dg (kx 54 ((kp key).take (i + 1))))) ([(b3, row 5 [.int .u8 (xb 54 ((kp key).getD i 0))])] ++ [(b4, row 5 [.int .u8 (xb 92 ((kp key).getD i 0))])]) q2 (dg (kx 92 ((kp key).take i))) (n' := i + 1) (ks' := dg (kx 92 ((kp key).take (i + 1)))) rfl rfl rfl rfl rfl Tryd.underlying26 elj (by show (_ ++ (_ ++ (_ ++ _))) ++ _ = _; simp only [List.append_assoc]) hq2 (fun w hw => src_bytes' Tryd.underlying26 (SlB.in hw (l := [xb 92 ((kp key).getD i 0)]) (r := []) (fz := (0, 0)) (List.mem_append_right _ (List.mem_singleton.2 rfl)) rfl 1) rfl) rfl (by first | (rw [kx_next (by omega), dg_append]; done) | (rw [kx_next (by omega), dg_append]; rfl)) (by omega) (by omega) (fun q2' hq2' => ?_)
        refine L_v rfl rfl rfl (V_assign rfl rfl) ?_
        refine L_nil ?_
        change J _ _ _ _
        refine J_region ?_
        refine L_v rfl rfl rfl (V_move rfl rfl) ?_
        refine L_v rfl rfl rfl (V_add rfl rfl rfl (by first | exact Go.IntWalk.i64_in _ (by omega) | rfl)) ?_
        refine L_v rfl rfl rfl (V_assign rfl rfl) ?_
        refine L_nil ?_
        exact ⟨(i + 1, q1', q2'), ⟨by show i + 1 ≤ 64; omega, hq1', hq2'⟩, by show 64 - (i + 1) < 64 - i; omega, ⟨rfl, rfl, rfl, rfl, rfl, rfl, trivial⟩, sub4 _ _ _ _, fun f hf => hf, rfl⟩
      ·
        first | (have h3 := h3; rw [decide_eq_true_eq] at h3) | (have h3 := h3; rw [decide_eq_false_iff_not] at h3) | skip
        obtain rfl : i = 64 := by omega
        have htk : (kp key).take 64 = kp key := List.take_of_length_le (by omega)
        rw [htk] at hq1 hq2 ⊢
        obtain ⟨g2, c2', r2, rfl, hk2, hc2, hr2⟩ := hq2.forms (by omega)
        refine J_exit ?_
        change J _ _ _ _
        refine J_seq ?_
        refine J_region ?_
        refine L_v rfl rfl rfl (V_move rfl rfl) ?_
        refine L_v rfl rfl rfl (V_move rfl rfl) ?_
        refine L_appN [(b0, row 23 (dg zd)), (b1, row 58 (dg (kp key)))] (ownM 5 (some (g2, c2', r2)) (dg (kx 92 (kp key)))) q1 (dg (kx 54 (kp key))) (n' := 64 + n2) (ks' := dg (kx 54 (kp key) ++ l2)) rfl rfl rfl rfl rfl Tryd.underlying26 elj rfl hq1 (fun w hw => src_bytes' Tryd.underlying26 (SlB.later hw rfl hu2) hul2) rfl (dg_append _ _).symm (by omega) (by omega) (fun q3 hq3 => ?_)
        obtain ⟨g3, c3, r3, rfl, hk3, hc3, hr3⟩ := hq3.forms (by omega)
        refine L_v rfl rfl rfl (V_assign rfl rfl) ?_
        refine L_nil ?_
        change J _ _ _ _
        refine J_seq ?_
        refine J_region ?_
        refine L_v rfl rfl rfl (V_move rfl rfl) ?_
        refine L_callV rfl rfl rfl rfl rfl rfl tx42n (fun w1 hw => rsum_b (kx 54 (kp key) ++ l2) (some ⟨g3, 0, none⟩) (64 + n2) c3 w1 (SlB.ofM hw (fun p hp => List.mem_append_right _ (List.mem_append_left _ hp)) hq3 rfl) ((kx_byt _ _).append hby2) (TabK.later hw (by simp) hR) (by rw [List.length_append, h54]; omega) hDe.symm) ?_
        refine L_alloc rfl rfl rfl rfl z23n (fun b4 => ?_)
        refine L_storeW 4 rfl rfl rfl rfl rfl rfl (szd sz23n (by first | (rw [dg_length]; exact shaP_len _) | (rw [dg_length]; exact macP_len _ _) | (rw [dg_length, dg_length, hDD]; rfl) | (rw [dg_length, dg_length, shaP_len]; rfl) | (rw [dg_length, dg_length, macP_len]; rfl) | rfl | (rw [dg_length]; assumption))) (dg_one _) (by first | (rw [dg_length]; exact shaP_len _) | (rw [dg_length]; exact macP_len _ _) | (rw [dg_length, dg_length, hDD]; rfl) | (rw [dg_length, dg_length, shaP_len]; rfl) | (rw [dg_length, dg_length, macP_len]; rfl) | rfl | (rw [dg_length]; assumption)) ?_
        refine L_nil ?_
        change J _ _ _ _
        refine J_seq ?_
        refine J_region ?_
        refine L_v rfl rfl rfl (V_move rfl rfl) ?_
        refine L_v rfl rfl rfl (V_sliceArr rfl rfl Tryd.underlying23 sz5n) ?_
        refine L_appN ([(b0, row 23 (dg zd)), (b1, row 58 (dg (kp key)))] ++ ownM 5 (some (g3, c3, r3)) (dg (kx 54 (kp key) ++ l2))) [(b4, row 23 (dg DD))] (some (g2, c2', r2)) (dg (kx 92 (kp key))) (n' := 64 + 32) (ks' := dg (kx 92 (kp key) ++ DD)) rfl rfl rfl rfl rfl Tryd.underlying26 elj rfl hq2 (fun w hw => src_bytes' Tryd.underlying26 (SlB.of_mem' hw (i := 4) rfl hDD 32) hDD) rfl (dg_append _ _).symm (by omega) (by omega) (fun q4 hq4 => ?_)
        refine L_v rfl rfl rfl (V_assign rfl rfl) ?_
        refine L_nil ?_
        change J _ _ _ _
        refine J_seq ?_
        refine J_region ?_
        refine L_v rfl rfl rfl (V_move rfl rfl) ?_
        refine L_callV rfl rfl rfl rfl rfl rfl tx42n (fun w1 hw => rsum_w (kx 92 (kp key) ++ DD) (oA q4) (64 + 32) (oC q4) w1 (SlB.ofM hw (fun p hp => List.mem_append_right _ (List.mem_append_left _ hp)) hq4 rfl) ((kx_byt _ _).append hDb) (TabK.later hw (by simp) hR) (by rw [List.length_append, h92, hDD]; decide)) ?_
        refine L_storeW 0 rfl rfl rfl rfl rfl rfl (szd sz23n (by first | (rw [dg_length]; exact shaP_len _) | (rw [dg_length]; exact macP_len _ _) | (rw [dg_length, dg_length, hDD]; rfl) | (rw [dg_length, dg_length, shaP_len]; rfl) | (rw [dg_length, dg_length, macP_len]; rfl) | rfl | (rw [dg_length]; assumption))) (dg_one _) (by first | (rw [dg_length]; exact shaP_len _) | (rw [dg_length]; exact macP_len _ _) | (rw [dg_length, dg_length, hDD]; rfl) | (rw [dg_length, dg_length, shaP_len]; rfl) | (rw [dg_length, dg_length, macP_len]; rfl) | rfl | (rw [dg_length]; assumption)) ?_
        refine L_nil ?_
        change J _ _ _ _
        refine J_ret ?_
        change Kret _ _ _ Exit.ret _
        refine ret1 rfl rfl (RV_c 0 rfl rfl Tryd.underlying23 rfl (szd sz23n (by first | (rw [dg_length]; exact shaP_len _) | (rw [dg_length]; exact macP_len _ _) | (rw [dg_length, dg_length, hDD]; rfl) | (rw [dg_length, dg_length, shaP_len]; rfl) | (rw [dg_length, dg_length, macP_len]; rfl) | rfl | (rw [dg_length]; assumption)))) ?_
        exact fun w' h => ⟨by rw [hDe]; rfl, h.fr⟩
  ·
    first | (have h1 := h1; rw [decide_eq_true_eq] at h1) | (have h1 := h1; rw [decide_eq_false_iff_not] at h1) | skip
    have hkk0 : kk key = key := by unfold kk; rw [if_neg (by omega)]
    have hl0 : key.length = n := hul
    refine J_skip ?_
    change J _ _ _ _
    refine J_seq ?_
    refine J_seq ?_
    refine J_region ?_
    refine L_v rfl rfl rfl (V_assign rfl rfl) ?_
    refine L_nil ?_
    change J _ _ _ _
    refine J_block ?_
    refine J_loop (X := Nat) (fun i => { env := [(0, .slice a n c), (1, .slice a2 n2 c2), (4, .pointer (some ⟨b0, 0, none⟩)), (5, .pointer (some ⟨b1, 0, none⟩)), (7, .int .i64 (i : Int))], mem := [(b0, row 23 (dg zd)), (b1, row 58 (dg (key.take i ++ (List.replicate 64 (0 : Int)).drop i)))] }) (fun i => i ≤ n) (fun i => n - i) 0 (Nat.zero_le _) ⟨⟨rfl, rfl, rfl, rfl, rfl, trivial⟩, (by show List.Sublist (_ :: (b1, row 58 (dg (List.take 0 key ++ List.drop 0 (List.replicate 64 (0 : Int))))) :: _) _; rw [List.take_zero, List.drop_zero, List.nil_append]; exact List.Sublist.refl _), fun f hf => hf, rfl⟩ ?_
    rintro i hi
    refine J_seq ?_
    refine J_seq ?_
    refine J_region ?_
    refine L_v rfl rfl rfl (V_move rfl rfl) ?_
    refine L_v rfl rfl rfl (V_move rfl rfl) ?_
    refine L_v rfl rfl rfl (V_len rfl rfl Tryd.underlying26 rfl) ?_
    refine L_v rfl rfl rfl (V_lss rfl rfl rfl (by first | exact decide_eq_true (by omega) | exact decide_eq_false (by omega) | rfl)) ?_
    refine L_nil ?_
    change J _ _ _ _
    refine J_cond rfl (fun h2 => ?_) (fun h2 => ?_)
    ·
      first | (have h2 := h2; rw [decide_eq_true_eq] at h2) | (have h2 := h2; rw [decide_eq_false_iff_not] at h2) | skip
      have hgd : key.getD ((i : Nat) : Int).toNat 0 = key.getD i 0 := by rw [Int.toNat_natCast]
      refine J_skip ?_
      change J _ _ _ _
      refine J_seq ?_
      refine J_block ?_
      refine J_region ?_
      refine L_v rfl rfl rfl (V_move rfl rfl) ?_
      refine L_v rfl rfl rfl (V_move rfl rfl) ?_
      refine L_v rfl rfl rfl (V_move rfl rfl) ?_
      refine L_v rfl rfl rfl (V_indexB rfl rfl rfl Tryd.underlying26 sz5n (fun w hw => SlB.later hw rfl hu) (by omega) (by omega)) ?_
      refine L_v rfl rfl rfl (V_loadB rfl rfl Tryd.underlying5 rfl (fun w hw => SlB.later hw rfl hu) (by omega) hgd) ?_
      refine L_v rfl rfl rfl (V_indexArr (off' := i) rfl rfl rfl Tryd.underlying58 sz5n (by omega) (by omega) (show 0 + ((i : Nat) : Int).toNat * 1 = i by omega)) ?_
      refine L_store1 1 rfl rfl rfl rfl rfl rfl rfl sz5n (by rw [dg_length, List.length_append, List.length_take, List.length_drop]; omega) (by rw [dg_set, take_setK (by omega) (by omega)]) ?_
      refine L_nil ?_
      change J _ _ _ _
      refine J_region ?_
      refine L_v rfl rfl rfl (V_move rfl rfl) ?_
      refine L_v rfl rfl rfl (V_add rfl rfl rfl (by first | exact Go.IntWalk.i64_in _ (by omega) | rfl)) ?_
      refine L_v rfl rfl rfl (V_assign rfl rfl) ?_
      refine L_nil ?_
      exact ⟨i + 1, by omega, by omega, ⟨rfl, rfl, rfl, rfl, rfl, trivial⟩, List.Sublist.refl _, fun f hf => hf, rfl⟩
    ·
      first | (have h2 := h2; rw [decide_eq_true_eq] at h2) | (have h2 := h2; rw [decide_eq_false_iff_not] at h2) | skip
      have hin : i = key.length := by omega
      have hkd := kp_done hkk0
      rw [← hin] at hkd
      rw [hkd]
      refine J_exit ?_
      change J _ _ _ _
      refine J_seq ?_
      refine J_region ?_
      refine L_v rfl rfl rfl (V_assign rfl rfl) ?_
      refine L_nil ?_
      change J _ _ _ _
      refine J_seq ?_
      refine J_region ?_
      refine L_v rfl rfl rfl (V_assign rfl rfl) ?_
      refine L_nil ?_
      change J _ _ _ _
      refine J_seq ?_
      refine J_seq ?_
      refine J_region ?_
      refine L_v rfl rfl rfl (V_assign rfl rfl) ?_
      refine L_nil ?_
      change J _ _ _ _
      refine J_block ?_
      refine J_loop (X := Nat × OwnR × OwnR) (fun x => { env := [(1, .slice a2 n2 c2), (4, .pointer (some ⟨b0, 0, none⟩)), (5, .pointer (some ⟨b1, 0, none⟩)), (8, ownV x.2.1 x.1), (9, ownV x.2.2 x.1), (10, .int .i64 (x.1 : Int))], mem := [(b0, row 23 (dg zd)), (b1, row 58 (dg (kp key)))] ++ (ownM 5 x.2.1 (dg (kx 54 ((kp key).take x.1))) ++ ownM 5 x.2.2 (dg (kx 92 ((kp key).take x.1)))) }) (fun x => x.1 ≤ 64 ∧ OwnC 1 x.2.1 x.1 (dg (kx 54 ((kp key).take x.1))) ∧ OwnC 1 x.2.2 x.1 (dg (kx 92 ((kp key).take x.1)))) (fun x => 64 - x.1) (0, none, none) ⟨Nat.zero_le _, ⟨rfl, rfl⟩, ⟨rfl, rfl⟩⟩ ⟨⟨rfl, rfl, rfl, rfl, rfl, rfl, trivial⟩, List.Sublist.cons_cons _ (List.Sublist.cons_cons _ (List.nil_sublist _)), fun f hf => hf, rfl⟩ ?_
      rintro ⟨i, q1, q2⟩ ⟨hi, hq1, hq2⟩
      simp only at hi hq1 hq2 ⊢
      refine J_seq ?_
      refine J_seq ?_
      refine J_region ?_
      refine L_v rfl rfl rfl (V_move rfl rfl) ?_
      refine L_v rfl rfl rfl (V_lss rfl rfl rfl (by first | exact decide_eq_true (by omega) | exact decide_eq_false (by omega) | rfl)) ?_
      refine L_nil ?_
      change J _ _ _ _
      refine J_cond rfl (fun h3 => ?_) (fun h3 => ?_)
      ·
        first | (have h3 := h3; rw [decide_eq_true_eq] at h3) | (have h3 := h3; rw [decide_eq_false_iff_not] at h3) | skip
        refine J_skip ?_
        change J _ _ _ _
        refine J_seq ?_
        refine J_block ?_
        refine J_seq ?_
        refine J_region ?_
        refine L_v rfl rfl rfl (V_move rfl rfl) ?_
        refine L_v rfl rfl rfl (V_move rfl rfl) ?_
        refine L_v rfl rfl rfl (V_indexArr (off' := i) rfl rfl rfl Tryd.underlying58 sz5n (by omega) (by omega) (show 0 + ((i : Nat) : Int).toNat * 1 = i by omega)) ?_
        refine L_v rfl rfl rfl (V_load1 1 rfl rfl rfl Tryd.underlying5 rfl (dgD (by omega))) ?_
        refine L_v rfl rfl rfl (V_xor (r := xb 54 ((kp key).getD i 0)) rfl rfl rfl rfl) ?_
        refine L_bs1 rfl rfl rfl rfl rfl Tryd.underlying26 bz5n rfl rfl (fun b2 => ?_)
        refine L_appN [(b0, row 23 (dg zd)), (b1, row 58 (dg (kp key)))] (ownM 5 q2 (dg (kx 92 ((kp key).take i))) ++ [(b2, row 5 [.int .u8 (xb 54 ((kp key).getD i 0))])]) q1 (dg (kx 54 ((kp key).take i))) (n' := i + 1) (ks' := dg (kx 54 ((kp key).take (i + 1)))) rfl rfl rfl rfl rfl Tryd.underlying26 elj (by show (_ ++ (_ ++ _)) ++ _ = _; simp only [List.append_assoc]) hq1 (fun w hw => src_bytes' Tryd.underlying26 (SlB.in hw (l := [xb 54 ((kp key).getD i 0)]) (r := []) (fz := (0, 0)) (List.mem_append_right _ (List.mem_singleton.2 rfl)) rfl 1) rfl) rfl (by first | (rw [kx_next (by omega), dg_append]; done) | (rw [kx_next (by omega), dg_append]; rfl)) (by omega) (by omega) (fun q1' hq1' => ?_)
        refine L_v rfl rfl rfl (V_assign rfl rfl) ?_
        refine L_nil ?_
        change J _ _ _ _
        refine J_region ?_
        refine L_v rfl rfl rfl (V_move rfl rfl) ?_
        refine L_v rfl rfl rfl (V_move rfl rfl) ?_
        refine L_v rfl rfl rfl (V_indexArr (off' := i) rfl rfl rfl Tryd.underlying58 sz5n (by omega) (by omega) (show 0 + ((i : Nat) : Int).toNat * 1 = i by omega)) ?_
        refine L_v rfl rfl rfl (V_load1 1 rfl rfl rfl Tryd.underlying5 rfl (dgD (by omega))) ?_
        refine L_v rfl rfl rfl (V_xor (r := xb 92 ((kp key).getD i 0)) rfl rfl rfl rfl) ?_
        refine L_bs1 rfl rfl rfl rfl rfl Tryd.underlying26 bz5n rfl rfl (fun b3 => ?_)
        refine L_appN ([(b0, row 23 (dg zd)), (b1, row 58 (dg (kp key)))] ++ ownM 5 q1' (dg (kx 54 ((kp key).take (i + 1))))) ([(b2, row 5 [.int .u8 (xb 54 ((kp key).getD i 0))])] ++ [(b3, row 5 [.int .u8 (xb 92 ((kp key).getD i 0))])]) q2 (dg (kx 92 ((kp key).take i))) (n' := i + 1) (ks' := dg (kx 92 ((kp key).take (i + 1)))) rfl rfl rfl rfl rfl Tryd.underlying26 elj (by show (_ ++ (_ ++ (_ ++ _))) ++ _ = _; simp only [List.append_assoc]) hq2 (fun w hw => src_bytes' Tryd.underlying26 (SlB.in hw (l := [xb 92 ((kp key).getD i 0)]) (r := []) (fz := (0, 0)) (List.mem_append_right _ (List.mem_singleton.2 rfl)) rfl 1) rfl) rfl (by first | (rw [kx_next (by omega), dg_append]; done) | (rw [kx_next (by omega), dg_append]; rfl)) (by omega) (by omega) (fun q2' hq2' => ?_)
        refine L_v rfl rfl rfl (V_assign rfl rfl) ?_
        refine L_nil ?_
        change J _ _ _ _
        refine J_region ?_
        refine L_v rfl rfl rfl (V_move rfl rfl) ?_
        refine L_v rfl rfl rfl (V_add rfl rfl rfl (by first | exact Go.IntWalk.i64_in _ (by omega) | rfl)) ?_
        refine L_v rfl rfl rfl (V_assign rfl rfl) ?_
        refine L_nil ?_
        exact ⟨(i + 1, q1', q2'), ⟨by show i + 1 ≤ 64; omega, hq1', hq2'⟩, by show 64 - (i + 1) < 64 - i; omega, ⟨rfl, rfl, rfl, rfl, rfl, rfl, trivial⟩, sub4 _ _ _ _, fun f hf => hf, rfl⟩
      ·
        first | (have h3 := h3; rw [decide_eq_true_eq] at h3) | (have h3 := h3; rw [decide_eq_false_iff_not] at h3) | skip
        obtain rfl : i = 64 := by omega
        have htk : (kp key).take 64 = kp key := List.take_of_length_le (by omega)
        rw [htk] at hq1 hq2 ⊢
        obtain ⟨g2, c2', r2, rfl, hk2, hc2, hr2⟩ := hq2.forms (by omega)
        refine J_exit ?_
        change J _ _ _ _
        refine J_seq ?_
        refine J_region ?_
        refine L_v rfl rfl rfl (V_move rfl rfl) ?_
        refine L_v rfl rfl rfl (V_move rfl rfl) ?_
        refine L_appN [(b0, row 23 (dg zd)), (b1, row 58 (dg (kp key)))] (ownM 5 (some (g2, c2', r2)) (dg (kx 92 (kp key)))) q1 (dg (kx 54 (kp key))) (n' := 64 + n2) (ks' := dg (kx 54 (kp key) ++ l2)) rfl rfl rfl rfl rfl Tryd.underlying26 elj rfl hq1 (fun w hw => src_bytes' Tryd.underlying26 (SlB.later hw rfl hu2) hul2) rfl (dg_append _ _).symm (by omega) (by omega) (fun q3 hq3 => ?_)
        obtain ⟨g3, c3, r3, rfl, hk3, hc3, hr3⟩ := hq3.forms (by omega)
        refine L_v rfl rfl rfl (V_assign rfl rfl) ?_
        refine L_nil ?_
        change J _ _ _ _
        refine J_seq ?_
        refine J_region ?_
        refine L_v rfl rfl rfl (V_move rfl rfl) ?_
        refine L_callV rfl rfl rfl rfl rfl rfl tx42n (fun w1 hw => rsum_b (kx 54 (kp key) ++ l2) (some ⟨g3, 0, none⟩) (64 + n2) c3 w1 (SlB.ofM hw (fun p hp => List.mem_append_right _ (List.mem_append_left _ hp)) hq3 rfl) ((kx_byt _ _).append hby2) (TabK.later hw (by simp) hR) (by rw [List.length_append, h54]; omega) hDe.symm) ?_
        refine L_alloc rfl rfl rfl rfl z23n (fun b4 => ?_)
        refine L_storeW 4 rfl rfl rfl rfl rfl rfl (szd sz23n (by first | (rw [dg_length]; exact shaP_len _) | (rw [dg_length]; exact macP_len _ _) | (rw [dg_length, dg_length, hDD]; rfl) | (rw [dg_length, dg_length, shaP_len]; rfl) | (rw [dg_length, dg_length, macP_len]; rfl) | rfl | (rw [dg_length]; assumption))) (dg_one _) (by first | (rw [dg_length]; exact shaP_len _) | (rw [dg_length]; exact macP_len _ _) | (rw [dg_length, dg_length, hDD]; rfl) | (rw [dg_length, dg_length, shaP_len]; rfl) | (rw [dg_length, dg_length, macP_len]; rfl) | rfl | (rw [dg_length]; assumption)) ?_
        refine L_nil ?_
        change J _ _ _ _
        refine J_seq ?_
        refine J_region ?_
        refine L_v rfl rfl rfl (V_move rfl rfl) ?_
        refine L_v rfl rfl rfl (V_sliceArr rfl rfl Tryd.underlying23 sz5n) ?_
        refine L_appN ([(b0, row 23 (dg zd)), (b1, row 58 (dg (kp key)))] ++ ownM 5 (some (g3, c3, r3)) (dg (kx 54 (kp key) ++ l2))) [(b4, row 23 (dg DD))] (some (g2, c2', r2)) (dg (kx 92 (kp key))) (n' := 64 + 32) (ks' := dg (kx 92 (kp key) ++ DD)) rfl rfl rfl rfl rfl Tryd.underlying26 elj rfl hq2 (fun w hw => src_bytes' Tryd.underlying26 (SlB.of_mem' hw (i := 4) rfl hDD 32) hDD) rfl (dg_append _ _).symm (by omega) (by omega) (fun q4 hq4 => ?_)
        refine L_v rfl rfl rfl (V_assign rfl rfl) ?_
        refine L_nil ?_
        change J _ _ _ _
        refine J_seq ?_
        refine J_region ?_
        refine L_v rfl rfl rfl (V_move rfl rfl) ?_
        refine L_callV rfl rfl rfl rfl rfl rfl tx42n (fun w1 hw => rsum_w (kx 92 (kp key) ++ DD) (oA q4) (64 + 32) (oC q4) w1 (SlB.ofM hw (fun p hp => List.mem_append_right _ (List.mem_append_left _ hp)) hq4 rfl) ((kx_byt _ _).append hDb) (TabK.later hw (by simp) hR) (by rw [List.length_append, h92, hDD]; decide)) ?_
        refine L_storeW 0 rfl rfl rfl rfl rfl rfl (szd sz23n (by first | (rw [dg_length]; exact shaP_len _) | (rw [dg_length]; exact macP_len _ _) | (rw [dg_length, dg_length, hDD]; rfl) | (rw [dg_length, dg_length, shaP_len]; rfl) | (rw [dg_length, dg_length, macP_len]; rfl) | rfl | (rw [dg_length]; assumption))) (dg_one _) (by first | (rw [dg_length]; exact shaP_len _) | (rw [dg_length]; exact macP_len _ _) | (rw [dg_length, dg_length, hDD]; rfl) | (rw [dg_length, dg_length, shaP_len]; rfl) | (rw [dg_length, dg_length, macP_len]; rfl) | rfl | (rw [dg_length]; assumption)) ?_
        refine L_nil ?_
        change J _ _ _ _
        refine J_ret ?_
        change Kret _ _ _ Exit.ret _
        refine ret1 rfl rfl (RV_c 0 rfl rfl Tryd.underlying23 rfl (szd sz23n (by first | (rw [dg_length]; exact shaP_len _) | (rw [dg_length]; exact macP_len _ _) | (rw [dg_length, dg_length, hDD]; rfl) | (rw [dg_length, dg_length, shaP_len]; rfl) | (rw [dg_length, dg_length, macP_len]; rfl) | rfl | (rw [dg_length]; assumption)))) ?_
        exact fun w' h => ⟨by rw [hDe]; rfl, h.fr⟩

theorem dsame_w (a b : List Int) (w : World) (ha : a.length = 32) (hb : b.length = 32) (hA : Byt a) (hB : Byt b) :
    Calls Tryd.prog 34 #[.agg (dg a).toArray, .agg (dg b).toArray] w fun e w' => e = .returned (.bool (decide (a = b))) ∧ Fr [] w w' := by
  refine calls_of (args := [.agg (dg a).toArray, .agg (dg b).toArray]) ([]) ([]) ([]) Tryd.func34 rfl rfl (okW0 _ _ _ _) ?_
  refine J_seq ?_
  refine J_region ?_
  refine L_box rfl rfl rfl rfl rfl (fun b0 => ?_)
  refine L_box rfl rfl rfl rfl rfl (fun b1 => ?_)
  refine L_v rfl rfl rfl (V_assign rfl rfl) ?_
  refine L_nil ?_
  change J _ _ _ _
  refine J_seq ?_
  refine J_region ?_
  refine L_v rfl rfl rfl (V_assign rfl rfl) ?_
  refine L_nil ?_
  change J _ _ _ _
  refine J_seq ?_
  refine J_seq ?_
  refine J_region ?_
  refine L_v rfl rfl rfl (V_move rfl rfl) ?_
  refine L_nil ?_
  change J _ _ _ _
  refine J_block ?_
  refine J_loop (X := Nat × Int) (fun x => { env := [(2, .pointer (some ⟨b0, 0, none⟩)), (3, .pointer (some ⟨b1, 0, none⟩)), (5, .int .u8 x.2), (7, .int .i64 (x.1 : Int))], mem := [(b0, row 23 (dg a)), (b1, row 23 (dg b))] }) (fun x => x.1 ≤ 32 ∧ (0 ≤ x.2 ∧ x.2 < 256) ∧ (x.2 = 0 ↔ a.take x.1 = b.take x.1)) (fun x => 32 - x.1) (0, 0) ⟨Nat.zero_le _, by decide, by simp⟩ ⟨⟨rfl, rfl, rfl, rfl, trivial⟩, List.Sublist.refl _, fun f hf => hf, rfl⟩ ?_
  rintro ⟨i, u⟩ ⟨hi, hu, huv⟩
  simp only at hi hu huv ⊢
  refine J_seq ?_
  refine J_region ?_
  refine L_v rfl rfl rfl (V_lss rfl rfl rfl (by first | exact decide_eq_true (by omega) | exact decide_eq_false (by omega) | rfl)) ?_
  refine L_nil ?_
  change J _ _ _ _
  refine J_seq ?_
  refine J_cond rfl (fun h1 => ?_) (fun h1 => ?_)
  ·
    first | (have h1 := h1; rw [decide_eq_true_eq] at h1) | (have h1 := h1; rw [decide_eq_false_iff_not] at h1) | skip
    refine J_skip ?_
    change J _ _ _ _
    refine J_seq ?_
    refine J_block ?_
    refine J_seq ?_
    refine J_region ?_
    refine L_v rfl rfl rfl (V_move rfl rfl) ?_
    refine L_v rfl rfl rfl (V_assign rfl rfl) ?_
    refine L_nil ?_
    change J _ _ _ _
    refine J_regionQ rfl (by kernel_rfl) ?_
    refine LQ_v rfl rfl rfl (V_move rfl rfl) ?_
    refine LQ_v rfl rfl rfl (V_move rfl rfl) ?_
    refine LQ_v rfl rfl rfl (V_indexArr (off' := i) rfl rfl rfl Tryd.underlying23 sz5n (by omega) (by omega) (show 0 + ((i : Nat) : Int).toNat * 1 = i by omega)) ?_
    refine LQ_v rfl rfl rfl (V_load1 0 rfl rfl rfl Tryd.underlying5 rfl (dgD (by omega))) ?_
    refine LQ_v rfl rfl rfl (V_move rfl rfl) ?_
    refine LQ_v rfl rfl rfl (V_indexArr (off' := i) rfl rfl rfl Tryd.underlying23 sz5n (by omega) (by omega) (show 0 + ((i : Nat) : Int).toNat * 1 = i by omega)) ?_
    refine LQ_v rfl rfl rfl (V_load1 1 rfl rfl rfl Tryd.underlying5 rfl (dgD (by omega))) ?_
    refine LQ_v rfl rfl rfl (V_xor rfl rfl rfl rfl) ?_
    refine LQ_v rfl rfl rfl (V_or rfl rfl rfl rfl) ?_
    refine LQ_v rfl rfl rfl (V_assign rfl rfl) ?_
    refine LQ_nil ?_
    change J _ _ _ _
    refine J_region ?_
    refine L_v rfl rfl rfl (V_add rfl rfl rfl (by first | exact Go.IntWalk.i64_in _ (by omega) | rfl)) ?_
    refine L_v rfl rfl rfl (V_move rfl rfl) ?_
    refine L_nil ?_
    have hx := byt_getD hA i
    have hy := byt_getD hB i
    exact ⟨(i + 1, bits2 .or .u8 u (bits2 .xor .u8 (a.getD i 0) (b.getD i 0))), ⟨by show i + 1 ≤ 32; omega, bits8 .or u (bits2 .xor .u8 (a.getD i 0) (b.getD i 0)), by show bits2 .or .u8 u (bits2 .xor .u8 (a.getD i 0) (b.getD i 0)) = 0 ↔ _; rw [or8 hu (bits8 _ _ _), xor8 hx hy, huv, take_two (by omega) (by omega)]⟩, by show 32 - (i + 1) < 32 - i; omega, ⟨rfl, rfl, rfl, rfl, trivial⟩, List.Sublist.refl _, fun f hf => hf, rfl⟩
  ·
    first | (have h1 := h1; rw [decide_eq_true_eq] at h1) | (have h1 := h1; rw [decide_eq_false_iff_not] at h1) | skip
    refine J_exit ?_
    change J _ _ _ _
    refine J_seq ?_
    refine J_region ?_
    refine L_v rfl rfl rfl (V_move rfl rfl) ?_
    refine L_v rfl rfl rfl (V_eql rfl rfl rfl (by first | exact decide_eq_true (by omega) | exact decide_eq_false (by omega) | rfl)) ?_
    refine L_v rfl rfl rfl (V_assign rfl rfl) ?_
    refine L_nil ?_
    change J _ _ _ _
    refine J_ret ?_
    change Kret _ _ _ Exit.ret _
    refine ret1 rfl rfl (RV_t rfl) ?_
    obtain rfl : i = 32 := by omega
    rw [List.take_of_length_le (by omega), List.take_of_length_le (by omega)] at huv
    exact fun w' h => ⟨congrArg (fun z => Ending.returned (.bool z)) (decide_eq_decide.2 huv), h.fr⟩

theorem same_b {x y : List Int} (hx : x.length = 32) (hy : y.length = 32) (bx : Byt x) (by_ : Byt y) (w : World) {b : Bool} (h : decide (x = y) = b) : Calls Tryd.prog 34 #[.agg (dg x).toArray, .agg (dg y).toArray] w fun e w' => e = .returned (.bool b) ∧ Fr [] w w' := by
  subst h
  exact dsame_w x y w hx hy bx by_

end Go.Proofs.YtbckeoidnpfbnaaDoor
