/- What the law comes to. -/
import Derived.Test.YtimcondlcknbbaaDoorMac2
import Derived.Test.YtimcondlcknbbaaDoorKeep
set_option linter.unusedVariables false
set_option linter.unusedSimpArgs false
set_option maxRecDepth 100000
namespace Go.Proofs.YtimcondlcknbbaaDoor
open Go.Sx
theorem egD : Tryd.prog.eqGuardType Tryd.prog.depth 26 = false := by kernel_rfl
theorem ssum_b (L : List Int) (a : Option Addr) (n c : Nat) (w : World) (hu : SlB w (.slice a n c) L) (hby : Byt L) (hcn : n ≤ c) (hK : TabK KT 0 w) (hsz : L.length ≤ 1099511627000) {d : List Int} (h : shaP L = d) : Calls Tryd.prog 12 #[.slice a n c] w fun e w' => e = .returned (.agg (dg d).toArray) ∧ Fr [] w w' := by
  subst h
  exact ssum_w L a n c w hu hby hcn hK hsz
theorem sz5o : (Tryd.prog.info? 5).map (·.size) = some 1 := by kernel_rfl
theorem sz26o : (Tryd.prog.info? 26).map (·.size) = some 32 := by kernel_rfl
theorem tx8o : Txt Tryd.prog 8 := txt_of Tryd.func8 rfl (by kernel_rfl)
theorem tx9o : Txt Tryd.prog 9 := txt_of Tryd.func9 rfl (by kernel_rfl)
theorem tx12o : Txt Tryd.prog 12 := txt_of Tryd.func12 rfl (by kernel_rfl)
theorem bz5o : (Tryd.prog.info? 5).map (fun i => (i.zero, i.size)) = some (some (.int .u8 0), 1) := by kernel_rfl
theorem z26o : (Tryd.prog.info? 26).bind (·.zero) = some (.agg (dg zd).toArray) := by kernel_rfl

set_option maxHeartbeats 1000000 in
theorem MacSums_in (key : List Int) (a : Option Addr) (n c : Nat) (l2 : List Int) (a2 : Option Addr) (n2 c2 : Nat) (w : World) (hu : SlB w (.slice a n c) key) (hby : Byt key) (hu2 : SlB w (.slice a2 n2 c2) l2) (hby2 : Byt l2) (hcn : n ≤ c) (hcn2 : n2 ≤ c2) (hK : TabK KT 0 w)  :
    Calls Tryd.prog 6 #[.slice a n c, .slice a2 n2 c2] w fun e w' => e = .returned (.bool true) ∧ Fr [] w w' := by
  have hul := hu.size
  have hul2 := hu2.size
  have h54 : (kx 54 (kp key)).length = 64 := by rw [kx_len, kp_len]
  have h92 : (kx 92 (kp key)).length = 64 := by rw [kx_len, kp_len]
  obtain ⟨DD, hDe⟩ : ∃ DD, DD = shaP (kx 54 (kp key) ++ l2) := ⟨_, rfl⟩
  have hDD : DD.length = 32 := by rw [hDe]; exact shaP_len _
  have hDb : Byt DD := by rw [hDe]; exact shaP_byt _
  have hkl := kp_len key
  have hkz : (List.replicate 64 (0 : Int)).length = 64 := rfl
  refine calls_of (args := [.slice a n c, .slice a2 n2 c2]) ([]) ([]) ([]) Tryd.func6 rfl rfl (okW0 _ _ _ _) ?_
  refine J_seq ?_
  refine J_region ?_
  refine L_v rfl rfl rfl (V_assign rfl rfl) ?_
  refine L_nil ?_
  change J _ _ _ _
  refine J_seq ?_
  refine J_seq ?_
  refine J_region ?_
  refine L_v rfl rfl rfl (V_move rfl rfl) ?_
  refine L_v rfl rfl rfl (V_len rfl rfl Tryd.underlying22 rfl) ?_
  refine L_v rfl rfl rfl (V_gtr rfl rfl rfl (by first | exact decide_eq_true (by omega) | exact decide_eq_false (by omega) | rfl)) ?_
  refine L_v rfl rfl rfl (V_move rfl rfl) ?_
  refine L_split 13 rfl (fun h1 => ?_) (fun h1 => ?_)
  ·
    first | (have h1 := h1; rw [decide_eq_true_eq] at h1) | (have h1 := h1; rw [decide_eq_false_iff_not] at h1) | skip
    refine L_skip rfl rfl rfl rfl rfl rfl rfl ?_
    refine L_skip rfl rfl rfl rfl rfl rfl rfl ?_
    refine L_skip rfl rfl rfl rfl rfl rfl rfl ?_
    first | refine L_v rfl rfl rfl (V_pickT rfl rfl rfl) ?_ | refine L_v rfl rfl rfl (V_pickF rfl rfl rfl) ?_
    refine L_nil ?_
    change J _ _ _ _
    refine J_true rfl ?_
    refine J_seq ?_
    refine J_region ?_
    refine L_callV rfl rfl rfl rfl rfl rfl tx8o (fun w1 hw => macs_w w1 (TabK.later hw (by simp) hK)) ?_
    refine L_v rfl rfl rfl (V_assign rfl rfl) ?_
    refine L_nil ?_
    change J _ _ _ _
    refine J_ret ?_
    change Kret _ _ _ Exit.ret _
    refine ret1 rfl rfl (RV_t rfl) ?_
    exact fun w' h => ⟨rfl, h.fr⟩
  ·
    first | (have h1 := h1; rw [decide_eq_true_eq] at h1) | (have h1 := h1; rw [decide_eq_false_iff_not] at h1) | skip
    refine L_wv rfl rfl rfl rfl rfl rfl (V_move rfl rfl) ?_
    refine L_wv rfl rfl rfl rfl rfl rfl (V_len rfl rfl Tryd.underlying22 rfl) ?_
    refine L_wv rfl rfl rfl rfl rfl rfl (V_gtr rfl rfl rfl (by first | exact decide_eq_true (by omega) | exact decide_eq_false (by omega) | rfl)) ?_
    first | refine L_v rfl rfl rfl (V_pickT rfl rfl rfl) ?_ | refine L_v rfl rfl rfl (V_pickF rfl rfl rfl) ?_
    refine L_nil ?_
    change J _ _ _ _
    refine J_cond rfl (fun h2 => ?_) (fun h2 => ?_)
    ·
      first | (have h2 := h2; rw [decide_eq_true_eq] at h2) | (have h2 := h2; rw [decide_eq_false_iff_not] at h2) | skip
      refine J_seq ?_
      refine J_region ?_
      refine L_callV rfl rfl rfl rfl rfl rfl tx8o (fun w1 hw => macs_w w1 (TabK.later hw (by simp) hK)) ?_
      refine L_v rfl rfl rfl (V_assign rfl rfl) ?_
      refine L_nil ?_
      change J _ _ _ _
      refine J_ret ?_
      change Kret _ _ _ Exit.ret _
      refine ret1 rfl rfl (RV_t rfl) ?_
      exact fun w' h => ⟨rfl, h.fr⟩
    ·
      first | (have h2 := h2; rw [decide_eq_true_eq] at h2) | (have h2 := h2; rw [decide_eq_false_iff_not] at h2) | skip
      refine J_skip ?_
      change J _ _ _ _
      refine J_seq ?_
      refine J_region ?_
      refine L_v rfl rfl rfl (V_assign rfl rfl) ?_
      refine L_nil ?_
      change J _ _ _ _
      refine J_seq ?_
      refine J_region ?_
      refine L_v rfl rfl rfl (V_assign rfl rfl) ?_
      refine L_nil ?_
      change J _ _ _ _
      refine J_seq ?_
      refine J_seq ?_
      refine J_region ?_
      refine L_v rfl rfl rfl (V_assign rfl rfl) ?_
      refine L_nil ?_
      change J _ _ _ _
      refine J_block ?_
      refine J_loop (X := Nat × OwnR × OwnR) (fun x => { env := [(0, .slice a n c), (1, .slice a2 n2 c2), (5, ownV x.2.1 x.1), (6, ownV x.2.2 x.1), (7, .int .i64 (x.1 : Int))], mem := ownM 5 x.2.1 (dg (kx 54 ((kp key).take x.1))) ++ ownM 5 x.2.2 (dg (kx 92 ((kp key).take x.1))) }) (fun x => x.1 ≤ 64 ∧ OwnC 1 x.2.1 x.1 (dg (kx 54 ((kp key).take x.1))) ∧ OwnC 1 x.2.2 x.1 (dg (kx 92 ((kp key).take x.1)))) (fun x => 64 - x.1) (0, none, none) ⟨Nat.zero_le _, ⟨rfl, rfl⟩, ⟨rfl, rfl⟩⟩ ⟨⟨rfl, rfl, rfl, rfl, rfl, trivial⟩, List.Sublist.refl _, fun f hf => hf, rfl⟩ ?_
      rintro ⟨i, q1, q2⟩ ⟨hi, hq1, hq2⟩
      simp only at hi hq1 hq2 ⊢
      refine J_seq ?_
      refine J_seq ?_
      refine J_region ?_
      refine L_v rfl rfl rfl (V_move rfl rfl) ?_
      refine L_v rfl rfl rfl (V_lss rfl rfl rfl (by first | exact decide_eq_true (by omega) | exact decide_eq_false (by omega) | rfl)) ?_
      refine L_nil ?_
      change J _ _ _ _
      refine J_cond rfl (fun h3 => ?_) (fun h3 => ?_)
      ·
        first | (have h3 := h3; rw [decide_eq_true_eq] at h3) | (have h3 := h3; rw [decide_eq_false_iff_not] at h3) | skip
        refine J_skip ?_
        change J _ _ _ _
        refine J_seq ?_
        refine J_block ?_
        refine J_seq ?_
        refine J_region ?_
        refine L_v rfl rfl rfl (V_assign rfl rfl) ?_
        refine L_nil ?_
        change J _ _ _ _
        refine J_seq ?_
        refine J_seq ?_
        refine J_region ?_
        refine L_v rfl rfl rfl (V_move rfl rfl) ?_
        refine L_v rfl rfl rfl (V_move rfl rfl) ?_
        refine L_v rfl rfl rfl (V_len rfl rfl Tryd.underlying22 rfl) ?_
        refine L_v rfl rfl rfl (V_lss rfl rfl rfl (by first | exact decide_eq_true (by omega) | exact decide_eq_false (by omega) | rfl)) ?_
        refine L_nil ?_
        change J _ _ _ _
        refine J_cond rfl (fun h4 => ?_) (fun h4 => ?_)
        ·
          first | (have h4 := h4; rw [decide_eq_true_eq] at h4) | (have h4 := h4; rw [decide_eq_false_iff_not] at h4) | skip
          obtain ⟨kv, hkv⟩ : ∃ kv, (kp key).getD i 0 = kv := ⟨_, rfl⟩
          have hkv' := kp_in (key := key) (i := i) (by omega) (by omega)
          rw [hkv] at hkv'
          have hgd : key.getD ((i : Nat) : Int).toNat 0 = kv := by rw [Int.toNat_natCast]; exact hkv'.symm
          refine J_region ?_
          refine L_v rfl rfl rfl (V_move rfl rfl) ?_
          refine L_v rfl rfl rfl (V_move rfl rfl) ?_
          refine L_v rfl rfl rfl (V_indexB rfl rfl rfl Tryd.underlying22 sz5o (fun w hw => SlB.later hw rfl hu) (by omega) (by omega)) ?_
          refine L_v rfl rfl rfl (V_loadB rfl rfl Tryd.underlying5 rfl (fun w hw => SlB.later hw rfl hu) (by omega) hgd) ?_
          refine L_v rfl rfl rfl (V_assign rfl rfl) ?_
          refine L_nil ?_
          change J _ _ _ _
          refine J_seq ?_
          refine J_region ?_
          refine L_v rfl rfl rfl (V_move rfl rfl) ?_
          refine L_v rfl rfl rfl (V_move rfl rfl) ?_
          refine L_v rfl rfl rfl (V_xor (r := xb 54 kv) rfl rfl rfl (by first | rfl | (show bits2 .xor .u8 0 54 = bits2 .xor .u8 kv 54; rw [hk0]))) ?_
          refine L_bs1 rfl rfl rfl rfl rfl Tryd.underlying22 bz5o rfl rfl (fun b0 => ?_)
          refine L_appN [] (ownM 5 q2 (dg (kx 92 ((kp key).take i))) ++ [(b0, row 5 [.int .u8 (xb 54 kv)])]) q1 (dg (kx 54 ((kp key).take i))) (n' := i + 1) (ks' := dg (kx 54 ((kp key).take (i + 1)))) rfl rfl rfl rfl rfl Tryd.underlying22 elj (by show (_ ++ _) ++ _ = [] ++ (_ ++ (_ ++ _)); simp only [List.append_assoc, List.nil_append]) hq1 (fun w hw => src_bytes' Tryd.underlying22 (SlB.in hw (l := [xb 54 kv]) (r := []) (fz := (0, 0)) (List.mem_append_right _ (List.mem_singleton.2 rfl)) rfl 1) rfl) rfl (by first | (rw [kx_next (by omega), hkv, dg_append]; done) | (rw [kx_next (by omega), hkv, dg_append]; rfl)) (by omega) (by omega) (fun q1' hq1' => ?_)
          refine L_v rfl rfl rfl (V_assign rfl rfl) ?_
          refine L_nil ?_
          change J _ _ _ _
          refine J_region ?_
          refine L_v rfl rfl rfl (V_move rfl rfl) ?_
          refine L_v rfl rfl rfl (V_move rfl rfl) ?_
          refine L_v rfl rfl rfl (V_xor (r := xb 92 kv) rfl rfl rfl (by first | rfl | (show bits2 .xor .u8 0 92 = bits2 .xor .u8 kv 92; rw [hk0]))) ?_
          refine L_bs1 rfl rfl rfl rfl rfl Tryd.underlying22 bz5o rfl rfl (fun b1 => ?_)
          refine L_appN (ownM 5 q1' (dg (kx 54 ((kp key).take (i + 1))))) ([(b0, row 5 [.int .u8 (xb 54 kv)])] ++ [(b1, row 5 [.int .u8 (xb 92 kv)])]) q2 (dg (kx 92 ((kp key).take i))) (n' := i + 1) (ks' := dg (kx 92 ((kp key).take (i + 1)))) rfl rfl rfl rfl rfl Tryd.underlying22 elj (by show ([] ++ (_ ++ (_ ++ _))) ++ _ = _; simp only [List.append_assoc, List.nil_append]) hq2 (fun w hw => src_bytes' Tryd.underlying22 (SlB.in hw (l := [xb 92 kv]) (r := []) (fz := (0, 0)) (List.mem_append_right _ (List.mem_singleton.2 rfl)) rfl 1) rfl) rfl (by first | (rw [kx_next (by omega), hkv, dg_append]; done) | (rw [kx_next (by omega), hkv, dg_append]; rfl)) (by omega) (by omega) (fun q2' hq2' => ?_)
          refine L_v rfl rfl rfl (V_assign rfl rfl) ?_
          refine L_nil ?_
          change J _ _ _ _
          refine J_region ?_
          refine L_v rfl rfl rfl (V_move rfl rfl) ?_
          refine L_v rfl rfl rfl (V_add rfl rfl rfl (by first | exact Go.IntWalk.i64_in _ (by omega) | rfl)) ?_
          refine L_v rfl rfl rfl (V_assign rfl rfl) ?_
          refine L_nil ?_
          exact ⟨(i + 1, q1', q2'), ⟨by show i + 1 ≤ 64; omega, hq1', hq2'⟩, by show 64 - (i + 1) < 64 - i; omega, ⟨rfl, rfl, rfl, rfl, rfl, trivial⟩, (by show List.Sublist (_ ++ _) (_ ++ (_ ++ _)); rw [← List.append_assoc]; exact List.sublist_append_left _ _), fun f hf => hf, rfl⟩
        ·
          first | (have h4 := h4; rw [decide_eq_true_eq] at h4) | (have h4 := h4; rw [decide_eq_false_iff_not] at h4) | skip
          obtain ⟨kv, hkv⟩ : ∃ kv, (kp key).getD i 0 = kv := ⟨_, rfl⟩
          have hkv' := kp_out (key := key) (i := i) (by omega) (by omega)
          have hk0 : kv = 0 := hkv.symm.trans hkv'
          refine J_skip ?_
          change J _ _ _ _
          refine J_seq ?_
          refine J_region ?_
          refine L_v rfl rfl rfl (V_move rfl rfl) ?_
          refine L_v rfl rfl rfl (V_move rfl rfl) ?_
          refine L_v rfl rfl rfl (V_xor (r := xb 54 kv) rfl rfl rfl (by first | rfl | (show bits2 .xor .u8 0 54 = bits2 .xor .u8 kv 54; rw [hk0]))) ?_
          refine L_bs1 rfl rfl rfl rfl rfl Tryd.underlying22 bz5o rfl rfl (fun b0 => ?_)
          refine L_appN [] (ownM 5 q2 (dg (kx 92 ((kp key).take i))) ++ [(b0, row 5 [.int .u8 (xb 54 kv)])]) q1 (dg (kx 54 ((kp key).take i))) (n' := i + 1) (ks' := dg (kx 54 ((kp key).take (i + 1)))) rfl rfl rfl rfl rfl Tryd.underlying22 elj (by show (_ ++ _) ++ _ = [] ++ (_ ++ (_ ++ _)); simp only [List.append_assoc, List.nil_append]) hq1 (fun w hw => src_bytes' Tryd.underlying22 (SlB.in hw (l := [xb 54 kv]) (r := []) (fz := (0, 0)) (List.mem_append_right _ (List.mem_singleton.2 rfl)) rfl 1) rfl) rfl (by first | (rw [kx_next (by omega), hkv, dg_append]; done) | (rw [kx_next (by omega), hkv, dg_append]; rfl)) (by omega) (by omega) (fun q1' hq1' => ?_)
          refine L_v rfl rfl rfl (V_assign rfl rfl) ?_
          refine L_nil ?_
          change J _ _ _ _
          refine J_region ?_
          refine L_v rfl rfl rfl (V_move rfl rfl) ?_
          refine L_v rfl rfl rfl (V_move rfl rfl) ?_
          refine L_v rfl rfl rfl (V_xor (r := xb 92 kv) rfl rfl rfl (by first | rfl | (show bits2 .xor .u8 0 92 = bits2 .xor .u8 kv 92; rw [hk0]))) ?_
          refine L_bs1 rfl rfl rfl rfl rfl Tryd.underlying22 bz5o rfl rfl (fun b1 => ?_)
          refine L_appN (ownM 5 q1' (dg (kx 54 ((kp key).take (i + 1))))) ([(b0, row 5 [.int .u8 (xb 54 kv)])] ++ [(b1, row 5 [.int .u8 (xb 92 kv)])]) q2 (dg (kx 92 ((kp key).take i))) (n' := i + 1) (ks' := dg (kx 92 ((kp key).take (i + 1)))) rfl rfl rfl rfl rfl Tryd.underlying22 elj (by show ([] ++ (_ ++ (_ ++ _))) ++ _ = _; simp only [List.append_assoc, List.nil_append]) hq2 (fun w hw => src_bytes' Tryd.underlying22 (SlB.in hw (l := [xb 92 kv]) (r := []) (fz := (0, 0)) (List.mem_append_right _ (List.mem_singleton.2 rfl)) rfl 1) rfl) rfl (by first | (rw [kx_next (by omega), hkv, dg_append]; done) | (rw [kx_next (by omega), hkv, dg_append]; rfl)) (by omega) (by omega) (fun q2' hq2' => ?_)
          refine L_v rfl rfl rfl (V_assign rfl rfl) ?_
          refine L_nil ?_
          change J _ _ _ _
          refine J_region ?_
          refine L_v rfl rfl rfl (V_move rfl rfl) ?_
          refine L_v rfl rfl rfl (V_add rfl rfl rfl (by first | exact Go.IntWalk.i64_in _ (by omega) | rfl)) ?_
          refine L_v rfl rfl rfl (V_assign rfl rfl) ?_
          refine L_nil ?_
          exact ⟨(i + 1, q1', q2'), ⟨by show i + 1 ≤ 64; omega, hq1', hq2'⟩, by show 64 - (i + 1) < 64 - i; omega, ⟨rfl, rfl, rfl, rfl, rfl, trivial⟩, (by show List.Sublist (_ ++ _) (_ ++ (_ ++ _)); rw [← List.append_assoc]; exact List.sublist_append_left _ _), fun f hf => hf, rfl⟩
      ·
        first | (have h3 := h3; rw [decide_eq_true_eq] at h3) | (have h3 := h3; rw [decide_eq_false_iff_not] at h3) | skip
        obtain rfl : i = 64 := by omega
        have htk : (kp key).take 64 = kp key := List.take_of_length_le (by omega)
        rw [htk] at hq1 hq2 ⊢
        obtain ⟨g2, c2', r2, rfl, hk2, hc2, hr2⟩ := hq2.forms (by omega)
        refine J_exit ?_
        change J _ _ _ _
        refine J_seq ?_
        refine J_region ?_
        refine L_v rfl rfl rfl (V_move rfl rfl) ?_
        refine L_v rfl rfl rfl (V_move rfl rfl) ?_
        refine L_appN [] (ownM 5 (some (g2, c2', r2)) (dg (kx 92 (kp key)))) q1 (dg (kx 54 (kp key))) (n' := 64 + n2) (ks' := dg (kx 54 (kp key) ++ l2)) rfl rfl rfl rfl rfl Tryd.underlying22 elj rfl hq1 (fun w hw => src_bytes' Tryd.underlying22 (SlB.later hw rfl hu2) hul2) rfl (dg_append _ _).symm (by omega) (by omega) (fun q3 hq3 => ?_)
        obtain ⟨g3, c3, r3, rfl, hk3, hc3, hr3⟩ := hq3.forms (by omega)
        refine L_v rfl rfl rfl (V_assign rfl rfl) ?_
        refine L_nil ?_
        change J _ _ _ _
        refine J_seq ?_
        refine J_region ?_
        refine L_v rfl rfl rfl (V_move rfl rfl) ?_
        refine L_callV rfl rfl rfl rfl rfl rfl tx12o (fun w1 hw => ssum_b (kx 54 (kp key) ++ l2) (some ⟨g3, 0, none⟩) (64 + n2) c3 w1 (SlB.ofM hw (fun p hp => by first | exact List.mem_append_left _ hp | exact List.mem_append_right _ (List.mem_append_left _ hp)) hq3 rfl) ((kx_byt _ _).append hby2) hq3.le (TabK.later hw (by simp) hK) (by rw [List.length_append, h54]; omega) hDe.symm) ?_
        refine L_alloc rfl rfl rfl rfl z26o (fun b2 => ?_)
        refine L_storeW 2 rfl rfl rfl rfl rfl rfl (szd sz26o (by first | (rw [dg_length]; exact hDD) | (rw [dg_length]; exact shaP_len _) | (rw [dg_length]; exact macP_len _ _) | (rw [dg_length, dg_length, shaP_len]; rfl) | (rw [dg_length, dg_length, macP_len]; rfl) | (rw [dg_length, dg_length, hDD]; rfl) | (simp [dg_length, zd_length, *]; done))) (dg_one _) (by first | (rw [dg_length]; exact hDD) | (rw [dg_length]; exact shaP_len _) | (rw [dg_length]; exact macP_len _ _) | (rw [dg_length, dg_length, shaP_len]; rfl) | (rw [dg_length, dg_length, macP_len]; rfl) | (rw [dg_length, dg_length, hDD]; rfl) | (simp [dg_length, zd_length, *]; done)) ?_
        refine L_nil ?_
        change J _ _ _ _
        refine J_seq ?_
        refine J_region ?_
        refine L_v rfl rfl rfl (V_move rfl rfl) ?_
        refine L_v rfl rfl rfl (V_sliceArr rfl rfl Tryd.underlying26 sz5o) ?_
        refine L_appN (ownM 5 (some (g3, c3, r3)) (dg (kx 54 (kp key) ++ l2))) [(b2, row 26 (dg DD))] (some (g2, c2', r2)) (dg (kx 92 (kp key))) (n' := 64 + 32) (ks' := dg (kx 92 (kp key) ++ DD)) rfl rfl rfl rfl rfl Tryd.underlying22 elj rfl hq2 (fun w hw => src_bytes' Tryd.underlying22 (SlB.of_mem' hw (i := 2) rfl hDD 32) hDD) rfl (dg_append _ _).symm (by omega) (by omega) (fun q4 hq4 => ?_)
        refine L_v rfl rfl rfl (V_assign rfl rfl) ?_
        refine L_nil ?_
        change J _ _ _ _
        refine J_seq ?_
        refine J_region ?_
        refine L_callV rfl rfl rfl rfl rfl rfl tx8o (fun w1 hw => macs_w w1 (TabK.later hw (by simp) hK)) ?_
        refine L_v rfl rfl rfl (V_move rfl rfl) ?_
        refine L_wv rfl rfl rfl rfl rfl rfl (V_move rfl rfl) ?_
        refine L_wv rfl rfl rfl rfl rfl rfl (V_move rfl rfl) ?_
        refine L_wcallV rfl rfl rfl rfl rfl rfl rfl rfl rfl tx9o (fun w1 hw => mac_w key a n c l2 a2 n2 c2 w1 (SlB.later hw rfl hu) hby (SlB.later hw rfl hu2) hby2 hcn hcn2 (TabK.later hw (by simp) hK) (by omega) (by omega)) ?_
        refine L_wv rfl rfl rfl rfl rfl rfl (V_move rfl rfl) ?_
        refine L_wcallV rfl rfl rfl rfl rfl rfl rfl rfl rfl tx12o (fun w1 hw => ssum_b (kx 92 (kp key) ++ DD) (oA q4) (64 + 32) (oC q4) w1 (SlB.ofM hw (fun p hp => List.mem_append_right _ (List.mem_append_left _ hp)) hq4 rfl) ((kx_byt _ _).append hDb) hq4.le (TabK.later hw (by simp) hK) (by rw [List.length_append, h92, hDD]; decide) (show shaP (kx 92 (kp key) ++ DD) = macP key l2 by rw [hDe]; rfl)) ?_
        refine L_wv rfl rfl rfl rfl rfl rfl (V_eqD rfl rfl rfl egD Tryd.underlying26 Tryd.underlying5 sz5o (by first | exact shaP_len _ | exact macP_len _ _ | assumption | rfl | (simp [*]; done)) (by first | exact shaP_len _ | exact macP_len _ _ | assumption | rfl | (simp [*]; done)) (decide_eq_true rfl)) ?_
        first | refine L_v rfl rfl rfl (V_pickT rfl rfl rfl) ?_ | refine L_v rfl rfl rfl (V_pickF rfl rfl rfl) ?_
        refine L_v rfl rfl rfl (V_assign rfl rfl) ?_
        refine L_nil ?_
        change J _ _ _ _
        refine J_ret ?_
        change Kret _ _ _ Exit.ret _
        refine ret1 rfl rfl (RV_t rfl) ?_
        exact fun w' h => ⟨rfl, h.fr⟩

theorem MacSums_w (u : Value) (l : List Int) (u2 : Value) (l2 : List Int) (w : World) (hv : SlB w u l) (hv2 : SlB w u2 l2) (hby : Byt l) (hby2 : Byt l2) (hq : ∀ a n c, u = .slice a n c → n ≤ c) (hq2 : ∀ a n c, u2 = .slice a n c → n ≤ c) (hK : TabK KT 0 w)  :
    Calls Tryd.prog 6 #[u, u2] w fun e w' => e = .returned (.bool true) ∧ Fr [] w w' := by
  obtain ⟨a, c, rfl⟩ := hv.form
  obtain ⟨a2, c2, rfl⟩ := hv2.form
  exact MacSums_in l a _ c l2 a2 _ c2 w hv hby hv2 hby2 (hq _ _ _ rfl) (hq2 _ _ _ rfl) hK
end Go.Proofs.YtimcondlcknbbaaDoor
