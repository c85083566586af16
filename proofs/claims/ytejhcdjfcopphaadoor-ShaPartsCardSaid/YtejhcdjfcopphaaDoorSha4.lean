/- The sum of bytes, by layer 2 and by its reference. -/
import Derived.Test.YtejhcdjfcopphaaDoorSha3
set_option linter.unusedVariables false
set_option linter.unusedSimpArgs false
set_option maxRecDepth 100000
namespace Go.Proofs.YtejhcdjfcopphaaDoor
open Go.Sx
theorem bsA (w : World) : (Instr.buildSlice 22 3 [(0, .int .u8 97), (1, .int .u8 98), (2, .int .u8 99)].toArray).run Tryd.prog w = .ok (.slice (some ⟨w.heap.size, 0, none⟩) 3 3) (w.alloc (row 5 (dg [97, 98, 99]))) := by kernel_rfl
theorem sz3k : (Tryd.prog.info? 3).map (·.size) = some 1 := by kernel_rfl
theorem sz5k : (Tryd.prog.info? 5).map (·.size) = some 1 := by kernel_rfl
theorem sz26k : (Tryd.prog.info? 26).map (·.size) = some 32 := by kernel_rfl
theorem sz40k : (Tryd.prog.info? 40).map (·.size) = some 1 := by kernel_rfl
theorem sz41k : (Tryd.prog.info? 41).map (·.size) = some 8 := by kernel_rfl
theorem tx10k : Txt Tryd.prog 10 := txt_of Tryd.func10 rfl (by kernel_rfl)
theorem tx14k : Txt Tryd.prog 14 := txt_of Tryd.func14 rfl (by kernel_rfl)
theorem tx15k : Txt Tryd.prog 15 := txt_of Tryd.func15 rfl (by kernel_rfl)
theorem tx16k : Txt Tryd.prog 16 := txt_of Tryd.func16 rfl (by kernel_rfl)
theorem tx19k : Txt Tryd.prog 19 := txt_of Tryd.func19 rfl (by kernel_rfl)
theorem tx20k : Txt Tryd.prog 20 := txt_of Tryd.func20 rfl (by kernel_rfl)
theorem tx21k : Txt Tryd.prog 21 := txt_of Tryd.func21 rfl (by kernel_rfl)
theorem bz5k : (Tryd.prog.info? 5).map (fun i => (i.zero, i.size)) = some (some (.int .u8 0), 1) := by kernel_rfl
theorem z26k : (Tryd.prog.info? 26).bind (·.zero) = some (.agg (dg zd).toArray) := by kernel_rfl
theorem z41k : (Tryd.prog.info? 41).bind (·.zero) = some (.agg (wl (List.replicate 8 0)).toArray) := by kernel_rfl

theorem write_nil (a : Option Addr) (n c : Nat) (w : World) :
    Calls Tryd.prog 15 #[.pointer none, .slice a n c] w fun e w' => e = .returned (.int .i64 3) ∧ Fr [] w w' := by
  refine calls_of (args := [.pointer none, .slice a n c]) ([]) ([]) ([]) Tryd.func15 rfl rfl (okW0 _ _ _ _) ?_
  refine J_seq ?_
  refine J_region ?_
  refine L_v rfl rfl rfl (V_assign rfl rfl) ?_
  refine L_nil ?_
  change J _ _ _ _
  refine J_seq ?_
  refine J_seq ?_
  refine J_region ?_
  refine L_v rfl rfl rfl (V_move rfl rfl) ?_
  refine L_v rfl rfl rfl (V_eqP rfl rfl rfl Tryd.underlying31 rfl) ?_
  refine L_nil ?_
  change J _ _ _ _
  refine J_true rfl ?_
  refine J_seq ?_
  refine J_region ?_
  refine L_v rfl rfl rfl (V_assign rfl rfl) ?_
  refine L_nil ?_
  change J _ _ _ _
  refine J_ret ?_
  change Kret _ _ _ Exit.ret _
  refine ret1 rfl rfl (RV_t rfl) ?_
  exact fun w' h => ⟨rfl, h.fr⟩

theorem hsum_nil (w : World) :
    Calls Tryd.prog 16 #[.pointer none] w fun e w' => e = .returned (.agg (dg zd).toArray) ∧ Fr [] w w' := by
  refine calls_of (args := [.pointer none]) ([]) ([]) ([]) Tryd.func16 rfl rfl (okW0 _ _ _ _) ?_
  refine J_seq ?_
  refine J_region ?_
  refine L_alloc rfl rfl rfl rfl z26k (fun b0 => ?_)
  refine L_nil ?_
  change J _ _ _ _
  refine J_seq ?_
  refine J_region ?_
  refine L_alloc rfl rfl rfl rfl z26k (fun b1 => ?_)
  refine L_nil ?_
  change J _ _ _ _
  refine J_seq ?_
  refine J_seq ?_
  refine J_region ?_
  refine L_v rfl rfl rfl (V_move rfl rfl) ?_
  refine L_v rfl rfl rfl (V_eqP rfl rfl rfl Tryd.underlying31 rfl) ?_
  refine L_nil ?_
  change J _ _ _ _
  refine J_true rfl ?_
  refine J_seq ?_
  refine J_region ?_
  refine L_v rfl rfl rfl (V_loadW 1 rfl rfl rfl Tryd.underlying26 rfl (szd sz26k (by first | (rw [dg_length]; exact shaP_len _) | rfl | (rw [dg_length]; assumption)))) ?_
  refine L_storeW 0 rfl rfl rfl rfl rfl rfl (szd sz26k (by first | (rw [dg_length]; exact shaP_len _) | rfl | (rw [dg_length]; assumption))) (by first | exact wl_one _ | exact hL_one _ _ _ | exact dg_one _) (by first | (rw [dg_length]; exact shaP_len _) | rfl | (rw [dg_length]; assumption)) ?_
  refine L_nil ?_
  change J _ _ _ _
  refine J_ret ?_
  change Kret _ _ _ Exit.ret _
  refine ret1 rfl rfl (RV_c 0 rfl rfl Tryd.underlying26 rfl (szd sz26k (by first | (rw [dg_length]; exact shaP_len _) | rfl | (rw [dg_length]; assumption)))) ?_
  exact fun w' h => ⟨rfl, h.fr⟩

theorem hlen_nil (w : World) :
    Calls Tryd.prog 17 #[.pointer none] w fun e w' => e = .returned (.int .i64 0) ∧ Fr [] w w' := by
  refine calls_of (args := [.pointer none]) ([]) ([]) ([]) Tryd.func17 rfl rfl (okW0 _ _ _ _) ?_
  refine J_seq ?_
  refine J_region ?_
  refine L_v rfl rfl rfl (V_assign rfl rfl) ?_
  refine L_nil ?_
  change J _ _ _ _
  refine J_seq ?_
  refine J_seq ?_
  refine J_region ?_
  refine L_v rfl rfl rfl (V_move rfl rfl) ?_
  refine L_v rfl rfl rfl (V_eqP rfl rfl rfl Tryd.underlying31 rfl) ?_
  refine L_nil ?_
  change J _ _ _ _
  refine J_true rfl ?_
  refine J_seq ?_
  refine J_region ?_
  refine L_v rfl rfl rfl (V_assign rfl rfl) ?_
  refine L_nil ?_
  change J _ _ _ _
  refine J_ret ?_
  change Kret _ _ _ Exit.ret _
  refine ret1 rfl rfl (RV_t rfl) ?_
  exact fun w' h => ⟨rfl, h.fr⟩

theorem hlen_w (b : Nat) (ws : R8) (bl : List Int) (n : Int) (w : World) (hb : w.heap[b]? = some (row 48 (hL ws.l bl n))) (hbl : bl.length = 64) :
    Calls Tryd.prog 17 #[.pointer (some ⟨b, 0, none⟩)] w fun e w' => e = .returned (.int .i64 n) ∧ Fr [] w w' := by
  refine calls_of (args := [.pointer (some ⟨b, 0, none⟩)]) ([]) ([]) ([]) Tryd.func17 rfl rfl (okW0 _ _ _ _) ?_
  refine J_seq ?_
  refine J_region ?_
  refine L_v rfl rfl rfl (V_assign rfl rfl) ?_
  refine L_nil ?_
  change J _ _ _ _
  refine J_seq ?_
  refine J_seq ?_
  refine J_region ?_
  refine L_v rfl rfl rfl (V_move rfl rfl) ?_
  refine L_v rfl rfl rfl (V_eqP rfl rfl rfl Tryd.underlying31 rfl) ?_
  refine L_nil ?_
  change J _ _ _ _
  refine J_false rfl ?_
  refine J_skip ?_
  change J _ _ _ _
  refine J_seq ?_
  refine J_region ?_
  refine L_v rfl rfl rfl (V_move rfl rfl) ?_
  refine L_v rfl rfl rfl (V_nilCheck rfl rfl) ?_
  refine L_v rfl rfl rfl (V_fieldAddr rfl rfl Tryd.underlying48 rfl sz3k rfl) ?_
  refine L_v rfl rfl rfl (V_loadF rfl rfl Tryd.underlying3 rfl (fun w hw => OkW.later hw rfl hb) (hL_n rfl hbl)) ?_
  refine L_v rfl rfl rfl (V_assign rfl rfl) ?_
  refine L_nil ?_
  change J _ _ _ _
  refine J_ret ?_
  change Kret _ _ _ Exit.ret _
  refine ret1 rfl rfl (RV_t rfl) ?_
  exact fun w' h => ⟨rfl, h.fr⟩

theorem ssum_w (L : List Int) (a : Option Addr) (n c : Nat) (w : World) (hu : SlB w (.slice a n c) L) (hby : Byt L) (hcn : n ≤ c) (hK : TabK KT 1 w) (hsz : L.length ≤ 1099511627000) :
    Calls Tryd.prog 10 #[.slice a n c] w fun e w' => e = .returned (.agg (dg (shaP L)).toArray) ∧ Fr [] w w' := by
  refine calls_of (args := [.slice a n c]) ([]) ([]) ([]) Tryd.func10 rfl rfl (okW0 _ _ _ _) ?_
  refine J_seq ?_
  refine J_region ?_
  refine L_alloc rfl rfl rfl rfl z26k (fun b0 => ?_)
  refine L_nil ?_
  change J _ _ _ _
  refine J_seq ?_
  refine J_region ?_
  refine L_call rfl rfl rfl rfl tx14k (fun w1 hw => (hnew_w w1).mono ?_)
  rintro e w' ⟨b1, rfl, hfr1, hsz1, hb1⟩
  refine ⟨_, _, _, rfl, hw.add hfr1 hb1 hsz1, rfl, ?_⟩
  refine L_v rfl rfl rfl (V_assign rfl rfl) ?_
  refine L_nil ?_
  change J _ _ _ _
  refine J_seq ?_
  refine J_region ?_
  refine L_v rfl rfl rfl (V_move rfl rfl) ?_
  refine L_v rfl rfl rfl (V_move rfl rfl) ?_
  refine L_call rfl rfl rfl rfl tx15k (fun w1 hw => (write_w b1 R0 (List.replicate 64 0) [] L a n c w1 (hw.at (i := 1) rfl) hs0 (SlB.later hw rfl hu) (apF hu (hw.ge rfl (i := 1) rfl)) hby hcn (TabK.later hw (by simp) hK) fun e => by have h1 : w.heap.size ≤ b1 := hw.ge rfl (i := 1) rfl; have h2 := hK.lt; omega (by simp; omega)).mono ?_)
  rintro e w' ⟨ws2, bl2, rfl, hfr2, hb2, hs2⟩
  refine ⟨_, _, _, rfl, hw.set (i := 1) rfl hfr2 hb2, rfl, ?_⟩
  refine L_nil ?_
  change J _ _ _ _
  refine J_seq ?_
  refine J_region ?_
  refine L_v rfl rfl rfl (V_move rfl rfl) ?_
  refine L_callV rfl rfl rfl rfl rfl rfl tx16k (fun w1 hw => hsum_w b1 ws2 bl2 ([] ++ L) w1 (by have h9 := hw.at (i := 1) rfl; rw [show ([] : List Int).length + L.length = L.length by simp] at h9; exact h9) hs2 (TabK.later hw (by simp) hK) (by show L.length ≤ _; omega)) ?_
  refine L_storeW 0 rfl rfl rfl rfl rfl rfl (szd sz26k (by first | (rw [dg_length]; exact shaP_len _) | rfl | (rw [dg_length]; assumption))) (by first | exact wl_one _ | exact hL_one _ _ _ | exact dg_one _) (by first | (rw [dg_length]; exact shaP_len _) | rfl | (rw [dg_length]; assumption)) ?_
  refine L_nil ?_
  change J _ _ _ _
  refine J_ret ?_
  change Kret _ _ _ Exit.ret _
  refine ret1 rfl rfl (RV_c 0 rfl rfl Tryd.underlying26 rfl (szd sz26k (by first | (rw [dg_length]; exact shaP_len _) | rfl | (rw [dg_length]; assumption)))) ?_
  exact fun w' h => ⟨rfl, h.fr⟩

theorem pad_w (L : List Int) (a : Option Addr) (n c : Nat) (w : World) (hu : SlB w (.slice a n c) L) (hby : Byt L) (hsz : L.length ≤ 1099511627000) :
    Calls Tryd.prog 19 #[.slice a n c] w fun e w' => RetB 5 w (pad L) (pad L).length id e w' := by
  have hul := hu.size
  have h128 : ([128] : List Int).length = 1 := rfl
  have hpn : padN n < 64 := by unfold padN; omega
  refine calls_of (args := [.slice a n c]) ([]) ([]) ([]) Tryd.func19 rfl rfl (okW0 _ _ _ _) ?_
  refine J_seq ?_
  refine J_region ?_
  refine L_v rfl rfl rfl (V_assign rfl rfl) ?_
  refine L_nil ?_
  change J _ _ _ _
  refine J_seq ?_
  refine J_region ?_
  refine L_v rfl rfl rfl (V_assign rfl rfl) ?_
  refine L_nil ?_
  change J _ _ _ _
  refine J_seq ?_
  refine J_region ?_
  refine L_v rfl rfl rfl (V_move rfl rfl) ?_
  refine L_v rfl rfl rfl (V_move rfl rfl) ?_
  refine L_appL [] none [] (n' := n) (ks' := dg L) rfl rfl rfl rfl rfl Tryd.underlying22 elj rfl ⟨rfl, rfl⟩ (fun w hw => src_bytes' Tryd.underlying22 (SlB.later hw rfl hu) hul) (Nat.zero_add n) (List.nil_append _) (by omega) (by omega) (fun q0 hq0 => ?_)
  refine L_v rfl rfl rfl (V_assign rfl rfl) ?_
  refine L_nil ?_
  change J _ _ _ _
  refine J_seq ?_
  refine J_region ?_
  refine L_v rfl rfl rfl (V_move rfl rfl) ?_
  refine L_bs1 rfl rfl rfl rfl rfl Tryd.underlying22 bz5k rfl rfl (fun b0 => ?_)
  refine L_appN [] [(b0, row 5 [.int .u8 (128)])] q0 (dg L) (n' := n + 1) (ks' := dg (L ++ [128])) rfl rfl rfl rfl rfl Tryd.underlying22 elj rfl hq0 (fun w hw => src_bytes' Tryd.underlying22 (SlB.in hw (l := [128]) (r := []) (fz := (0, 0)) (List.mem_append_right _ (List.mem_singleton.2 rfl)) rfl 1) rfl) rfl (by first | (rw [dg_append]; done) | (rw [dg_append]; rfl)) (by omega) (by omega) (fun q' hq' => ?_)
  refine L_v rfl rfl rfl (V_assign rfl rfl) ?_
  refine L_nil ?_
  change J _ _ _ _
  refine J_seq ?_
  refine J_block ?_
  refine J_loop (X := Nat × OwnR) (fun x => { env := [(0, .slice a n c), (3, ownV x.2 (n + 1 + x.1))], mem := ownM 5 x.2 (dg (L ++ [128] ++ List.replicate x.1 0)) }) (fun x => x.1 ≤ padN n ∧ OwnC 1 x.2 (n + 1 + x.1) (dg (L ++ [128] ++ List.replicate x.1 0))) (fun x => padN n - x.1) (0, q') ⟨Nat.zero_le _, by simpa using hq'⟩ ⟨⟨rfl, rfl, trivial⟩, (by simp only [List.replicate_zero, List.append_nil]; exact List.sublist_append_left _ _), fun f hf => hf, rfl⟩ ?_
  rintro ⟨j, q⟩ ⟨hj, hq⟩
  simp only at hj hq ⊢
  refine J_seq ?_
  refine J_seq ?_
  refine J_region ?_
  refine L_v rfl rfl rfl (V_move rfl rfl) ?_
  refine L_v rfl rfl rfl (V_len rfl rfl Tryd.underlying22 rfl) ?_
  refine L_v rfl rfl rfl (V_rem rfl rfl rfl (by omega) (r64 (by omega))) ?_
  refine L_v rfl rfl rfl (V_neq rfl rfl rfl (by first | exact decide_eq_true (by omega) | exact decide_eq_false (by omega) | rfl)) ?_
  refine L_nil ?_
  change J _ _ _ _
  refine J_cond rfl (fun h1 => ?_) (fun h1 => ?_)
  ·
    first | (have h1 := h1; rw [decide_eq_true_eq] at h1) | (have h1 := h1; rw [decide_eq_false_iff_not] at h1) | skip
    refine J_skip ?_
    change J _ _ _ _
    refine J_block ?_
    refine J_region ?_
    refine L_v rfl rfl rfl (V_move rfl rfl) ?_
    refine L_bs1 rfl rfl rfl rfl rfl Tryd.underlying22 bz5k rfl rfl (fun b1 => ?_)
    refine L_appN [] [(b1, row 5 [.int .u8 (0)])] q (dg (L ++ [128] ++ List.replicate j 0)) (n' := (n + 1 + j) + 1) (ks' := dg (L ++ [128] ++ List.replicate (j + 1) 0)) rfl rfl rfl rfl rfl Tryd.underlying22 elj rfl hq (fun w hw => src_bytes' Tryd.underlying22 (SlB.in hw (l := [0]) (r := []) (fz := (0, 0)) (List.mem_append_right _ (List.mem_singleton.2 rfl)) rfl 1) rfl) rfl (by first | (rw [List.replicate_succ', ← List.append_assoc, dg_append (L ++ [128] ++ _)]; done) | (rw [List.replicate_succ', ← List.append_assoc, dg_append (L ++ [128] ++ _)]; rfl)) (by omega) (by omega) (fun q' hq' => ?_)
    refine L_v rfl rfl rfl (V_assign rfl rfl) ?_
    refine L_nil ?_
    have hlt : j < padN n := by unfold padN at hj ⊢; omega
    exact ⟨(j + 1, q'), ⟨by show j + 1 ≤ padN n; omega, hq'⟩, by show padN n - (j + 1) < padN n - j; omega, ⟨rfl, rfl, trivial⟩, List.sublist_append_left _ _, fun f hf => hf, rfl⟩
  ·
    first | (have h1 := h1; rw [decide_eq_true_eq] at h1) | (have h1 := h1; rw [decide_eq_false_iff_not] at h1) | skip
    obtain ⟨p, hpp⟩ : ∃ p, padN n = p := ⟨_, rfl⟩
    obtain rfl : p = j := by rw [← hpp]; unfold padN at hj ⊢; omega
    have hp64 : p < 64 := by rw [← hpp]; unfold padN; omega
    have hb0 : beL (n : Int) 0 = [] := rfl
    refine J_exit ?_
    change J _ _ _ _
    refine J_seq ?_
    refine J_region ?_
    refine L_v rfl rfl rfl (V_move rfl rfl) ?_
    refine L_v rfl rfl rfl (V_len rfl rfl Tryd.underlying22 rfl) ?_
    refine L_v rfl rfl rfl (V_conv rfl rfl Tryd.underlying3 Tryd.underlying50 (Go.IntWalk.u64_in _ (by omega))) ?_
    refine L_v rfl rfl rfl (V_mul rfl rfl rfl (Go.IntWalk.u64_in _ (by omega))) ?_
    refine L_v rfl rfl rfl (V_assign rfl rfl) ?_
    refine L_nil ?_
    change J _ _ _ _
    refine J_seq ?_
    refine J_seq ?_
    refine J_region ?_
    refine L_v rfl rfl rfl (V_assign rfl rfl) ?_
    refine L_nil ?_
    change J _ _ _ _
    refine J_block ?_
    refine J_loop (X := Nat × OwnR) (fun x => { env := [(3, ownV x.2 (n + 1 + p + x.1)), (4, .int .u64 ((n : Int) * 8)), (5, .int .i64 (7 - (x.1 : Int)))], mem := ownM 5 x.2 (dg ((L ++ [128] ++ List.replicate p 0) ++ beL (n : Int) x.1)) }) (fun x => x.1 ≤ 8 ∧ OwnC 1 x.2 (n + 1 + p + x.1) (dg ((L ++ [128] ++ List.replicate p 0) ++ beL (n : Int) x.1))) (fun x => 8 - x.1) (0, q) ⟨Nat.zero_le _, by rw [hb0, List.append_nil]; exact hq⟩ ⟨⟨rfl, rfl, rfl, trivial⟩, (by show List.Sublist (ownM 5 q (dg (_ ++ beL (n : Int) 0))) _; rw [hb0, List.append_nil]; exact List.Sublist.refl _), fun f hf => hf, rfl⟩ ?_
    rintro ⟨k, q⟩ ⟨hk, hq⟩
    simp only at hk hq ⊢
    refine J_seq ?_
    refine J_seq ?_
    refine J_region ?_
    refine L_v rfl rfl rfl (V_move rfl rfl) ?_
    refine L_v rfl rfl rfl (V_geq rfl rfl rfl (by first | exact decide_eq_true (by omega) | exact decide_eq_false (by omega) | rfl)) ?_
    refine L_nil ?_
    change J _ _ _ _
    refine J_cond rfl (fun h2 => ?_) (fun h2 => ?_)
    ·
      first | (have h2 := h2; rw [decide_eq_true_eq] at h2) | (have h2 := h2; rw [decide_eq_false_iff_not] at h2) | skip
      refine J_skip ?_
      change J _ _ _ _
      refine J_seq ?_
      refine J_block ?_
      refine J_region ?_
      refine L_v rfl rfl rfl (V_move rfl rfl) ?_
      refine L_v rfl rfl rfl (V_move rfl rfl) ?_
      refine L_v rfl rfl rfl (V_move rfl rfl) ?_
      refine L_v rfl rfl rfl (V_mul rfl rfl rfl (by first | exact Go.IntWalk.i64_in _ (by omega) | rfl)) ?_
      refine L_v rfl rfl rfl (V_shr rfl rfl rfl (by omega) rfl) ?_
      refine L_v rfl rfl rfl (V_conv rfl rfl Tryd.underlying50 Tryd.underlying5 (shr_be2 k (by omega) (by omega) (by omega))) ?_
      refine L_bs1 rfl rfl rfl rfl rfl Tryd.underlying22 bz5k rfl rfl (fun b1 => ?_)
      refine L_appN [] [(b1, row 5 [.int .u8 (lb (n : Int) (7 - k))])] q (dg ((L ++ [128] ++ List.replicate p 0) ++ beL (n : Int) k)) (n' := (n + 1 + p + k) + 1) (ks' := dg ((L ++ [128] ++ List.replicate p 0) ++ beL (n : Int) (k + 1))) rfl rfl rfl rfl rfl Tryd.underlying22 elj rfl hq (fun w hw => src_bytes' Tryd.underlying22 (SlB.in hw (l := [lb (n : Int) (7 - k)]) (r := []) (fz := (0, 0)) (List.mem_append_right _ (List.mem_singleton.2 rfl)) rfl 1) rfl) rfl (by first | (rw [beL_succ, ← List.append_assoc, dg_append (_ ++ beL _ _)]; done) | (rw [beL_succ, ← List.append_assoc, dg_append (_ ++ beL _ _)]; rfl)) (by omega) (by omega) (fun q' hq' => ?_)
      refine L_v rfl rfl rfl (V_assign rfl rfl) ?_
      refine L_nil ?_
      change J _ _ _ _
      refine J_region ?_
      refine L_v rfl rfl rfl (V_move rfl rfl) ?_
      refine L_v rfl rfl rfl (V_sub (r := 7 - ((k + 1 : Nat) : Int)) rfl rfl rfl (by rw [Go.IntWalk.i64_in _ (by omega)]; omega)) ?_
      refine L_v rfl rfl rfl (V_assign rfl rfl) ?_
      refine L_nil ?_
      exact ⟨(k + 1, q'), ⟨by show k + 1 ≤ 8; omega, hq'⟩, by show 8 - (k + 1) < 8 - k; omega, ⟨rfl, rfl, rfl, trivial⟩, List.sublist_append_left _ _, fun f hf => hf, rfl⟩
    ·
      first | (have h2 := h2; rw [decide_eq_true_eq] at h2) | (have h2 := h2; rw [decide_eq_false_iff_not] at h2) | skip
      obtain rfl : k = 8 := by omega
      refine J_exit ?_
      change J _ _ _ _
      refine J_seq ?_
      refine J_region ?_
      refine L_v rfl rfl rfl (V_move rfl rfl) ?_
      refine L_v rfl rfl rfl (V_assign rfl rfl) ?_
      refine L_nil ?_
      change J _ _ _ _
      refine J_ret ?_
      change Kret _ _ _ Exit.ret _
      refine ret1 rfl rfl (RV_t rfl) ?_
      obtain ⟨g1, c1, r1, rfl, hk1, hc1, hr1⟩ := hq.forms (by omega)
      have hpl := (pad_len L).1
      have hpad : (L ++ [128] ++ List.replicate p 0) ++ beL (n : Int) 8 = pad L := by unfold pad padL; rw [hul, ← hpp]; simp only [List.append_assoc]
      exact fun w' h => RetB.of h rfl 0 (r := r1) (by show some _ = some _; rw [hpad]) (by rw [hpl, hul, hpp]; rfl) rfl (by show _ ≤ c1; have hc2 : n + 1 + p + 8 ≤ c1 := hc1; rw [hpl, hul, hpp]; exact hc2) (by show r1.length = c1 - (pad L).length; rw [hpl, hul, hpp, hr1, Nat.mul_one])

theorem rsum_w (L : List Int) (a : Option Addr) (n c : Nat) (w : World) (hu : SlB w (.slice a n c) L) (hby : Byt L) (hK : TabK KT 0 w) (hsz : L.length ≤ 1099511627000) :
    Calls Tryd.prog 11 #[.slice a n c] w fun e w' => e = .returned (.agg (dg (shaP L)).toArray) ∧ Fr [] w w' := by
  have hul := hu.size
  have hpl := pad_len L
  have hpn : padN L.length < 64 := by unfold padN; omega
  refine calls_of (args := [.slice a n c]) ([]) ([]) ([]) Tryd.func11 rfl rfl (okW0 _ _ _ _) ?_
  refine J_seq ?_
  refine J_region ?_
  refine L_alloc rfl rfl rfl rfl z26k (fun b0 => ?_)
  refine L_nil ?_
  change J _ _ _ _
  refine J_seq ?_
  refine J_region ?_
  refine L_v rfl rfl rfl (V_move rfl rfl) ?_
  refine L_callB rfl rfl rfl rfl rfl rfl tx19k (fun w1 hw => pad_w L a n c w1 (SlB.later hw rfl hu) hby (by omega)) (fun g1 r1 c1 hl1 hc1 hr1 => ?_)
  refine L_v rfl rfl rfl (V_assign rfl rfl) ?_
  refine L_nil ?_
  change J _ _ _ _
  refine J_seq ?_
  refine J_region ?_
  refine L_callV rfl rfl rfl rfl rfl rfl tx20k (fun w1 _ => begin_w w1) ?_
  refine L_alloc rfl rfl rfl rfl z41k (fun b2 => ?_)
  refine L_storeW 2 rfl rfl rfl rfl rfl rfl (szd sz41k (by rw [wl_len]; rfl)) (by first | exact wl_one _ | exact hL_one _ _ _ | exact dg_one _) (by rw [wl_len]; rfl) ?_
  refine L_nil ?_
  change J _ _ _ _
  refine J_seq ?_
  refine J_seq ?_
  refine J_region ?_
  refine L_v rfl rfl rfl (V_assign rfl rfl) ?_
  refine L_nil ?_
  change J _ _ _ _
  refine J_block ?_
  refine J_loop (X := Nat) (fun k => { env := [(2, .pointer (some ⟨b0, 0, none⟩)), (3, .slice (some ⟨g1, 0, none⟩) (pad L).length c1), (4, .pointer (some ⟨b2, 0, none⟩)), (5, .int .i64 ((64 * k : Nat) : Int))], mem := [(b0, row 26 (dg zd)), (g1, row 5 (dg (pad L) ++ r1)), (b2, row 41 (wl (wsn (pad L) k).l))] }) (fun k => 64 * k ≤ (pad L).length) (fun k => (pad L).length - 64 * k) 0 (Nat.zero_le _) ⟨⟨rfl, rfl, rfl, rfl, trivial⟩, List.Sublist.refl _, fun f hf => hf, rfl⟩ ?_
  rintro k hk
  refine J_seq ?_
  refine J_seq ?_
  refine J_region ?_
  refine L_v rfl rfl rfl (V_move rfl rfl) ?_
  refine L_v rfl rfl rfl (V_move rfl rfl) ?_
  refine L_v rfl rfl rfl (V_len rfl rfl Tryd.underlying22 rfl) ?_
  refine L_v rfl rfl rfl (V_lss rfl rfl rfl (by first | exact decide_eq_true (by omega) | exact decide_eq_false (by omega) | rfl)) ?_
  refine L_nil ?_
  change J _ _ _ _
  refine J_cond rfl (fun h1 => ?_) (fun h1 => ?_)
  ·
    first | (have h1 := h1; rw [decide_eq_true_eq] at h1) | (have h1 := h1; rw [decide_eq_false_iff_not] at h1) | skip
    refine J_skip ?_
    change J _ _ _ _
    refine J_seq ?_
    refine J_block ?_
    refine J_regionT 7 rfl (by kernel_rfl) ?_
    refine LQ_v rfl rfl rfl (V_loadW 2 rfl rfl rfl Tryd.underlying41 rfl (szd sz41k (by rw [wl_len]; rfl))) ?_
    refine LQ_v rfl rfl rfl (V_move rfl rfl) ?_
    refine LQ_v rfl rfl rfl (V_move rfl rfl) ?_
    refine LQ_v rfl rfl rfl (V_move rfl rfl) ?_
    refine LQ_v rfl rfl rfl (V_add rfl rfl rfl (by first | exact Go.IntWalk.i64_in _ (by omega) | rfl)) ?_
    refine LQ_v rfl rfl rfl (V_sliceS rfl rfl Tryd.underlying22 sz5k (Bd.at (v := 64 * k) rfl rfl) (Bd.at (v := 64 * k + 64) rfl (by omega)) rfl rfl (by first | omega | (simp; omega)) (by first | omega | (simp; omega)) (by first | omega | (simp; omega)) rfl) ?_
    refine LQ_callV rfl rfl rfl rfl rfl rfl tx21k (fun w1 hw => block_w (wsn (pad L) k) _ _ _ (((pad L).drop (64 * k)).take (64 * k + 64 - 64 * k)) w1 (SlB.part (SlB.of_own hw (i := 1) rfl hl1 c1) (by omega) (by omega) (by omega)) (by rw [List.length_take, List.length_drop]; omega) (((pad_byt hby).drop _).take _) (TabK.later hw (by simp) hK)) ?_
    refine LQ_nil ?_
    refine L_storeW 2 rfl rfl rfl rfl rfl rfl (szd sz41k (by rw [wl_len]; rfl)) (by first | exact wl_one _ | exact hL_one _ _ _ | exact dg_one _) (by rw [wl_len]; rfl) ?_
    refine L_nil ?_
    change J _ _ _ _
    refine J_region ?_
    refine L_v rfl rfl rfl (V_move rfl rfl) ?_
    refine L_v rfl rfl rfl (V_add (r := ((64 * (k + 1) : Nat) : Int)) rfl rfl rfl (by rw [Go.IntWalk.i64_in _ (by omega)]; omega)) ?_
    refine L_v rfl rfl rfl (V_assign rfl rfl) ?_
    refine L_nil ?_
    have hch : (((pad L).drop (64 * k)).take (64 * k + 64 - 64 * k)) = chunk (pad L) k := by unfold chunk; rw [show 64 * k + 64 - 64 * k = 64 by omega]
    exact ⟨k + 1, by omega, by omega, ⟨rfl, rfl, rfl, rfl, trivial⟩, (by show List.Sublist [_, _, (b2, row 41 (wl (blk KT (wsn (pad L) k) (chunk (pad L) k)).l))] _; rw [← hch]; exact List.Sublist.refl _), fun f hf => hf, rfl⟩
  ·
    first | (have h1 := h1; rw [decide_eq_true_eq] at h1) | (have h1 := h1; rw [decide_eq_false_iff_not] at h1) | skip
    have hkk : k = (pad L).length / 64 := by omega
    obtain ⟨R, hR⟩ : ∃ R, wsn (pad L) k = R := ⟨_, rfl⟩
    have hsh : shaP L = dig R := by unfold shaP; rw [← hkk, hR]
    refine J_exit ?_
    change J _ _ _ _
    refine J_seq ?_
    refine J_region ?_
    refine L_alloc rfl rfl rfl rfl z26k (fun b3 => ?_)
    refine L_nil ?_
    change J _ _ _ _
    refine J_seq ?_
    refine J_seq ?_
    refine J_region ?_
    refine L_v rfl rfl rfl (V_assign rfl rfl) ?_
    refine L_nil ?_
    change J _ _ _ _
    refine J_block ?_
    refine J_loop (X := Nat) (fun i => { env := [(2, .pointer (some ⟨b0, 0, none⟩)), (4, .pointer (some ⟨b2, 0, none⟩)), (6, .pointer (some ⟨b3, 0, none⟩)), (7, .int .i64 (i : Int))], mem := [(b0, row 26 (dg zd)), (g1, row 5 (dg (pad L) ++ r1)), (b2, row 41 (wl (R).l)), (b3, row 26 (dg ((dig R).take i ++ zd.drop i)))] }) (fun i => i ≤ 32) (fun i => 32 - i) 0 (Nat.zero_le _) ⟨⟨rfl, rfl, rfl, rfl, trivial⟩, (by show List.Sublist [_, _, _, (b3, row 26 (dg (List.take 0 (dig R) ++ List.drop 0 zd)))] _; rw [dz0, ← hR]; exact List.Sublist.refl _), fun f hf => hf, rfl⟩ ?_
    rintro i hi
    refine J_seq ?_
    refine J_seq ?_
    refine J_region ?_
    refine L_v rfl rfl rfl (V_move rfl rfl) ?_
    refine L_v rfl rfl rfl (V_lss rfl rfl rfl (by first | exact decide_eq_true (by omega) | exact decide_eq_false (by omega) | rfl)) ?_
    refine L_nil ?_
    change J _ _ _ _
    refine J_cond rfl (fun h2 => ?_) (fun h2 => ?_)
    ·
      first | (have h2 := h2; rw [decide_eq_true_eq] at h2) | (have h2 := h2; rw [decide_eq_false_iff_not] at h2) | skip
      refine J_skip ?_
      change J _ _ _ _
      refine J_seq ?_
      refine J_block ?_
      refine J_region ?_
      refine L_v rfl rfl rfl (V_move rfl rfl) ?_
      refine L_v rfl rfl rfl (V_move rfl rfl) ?_
      refine L_v rfl rfl rfl (V_quo rfl rfl rfl (by omega) (by first | exact q64 (by omega) (by omega) (by omega) | rfl)) ?_
      refine L_v rfl rfl rfl (V_indexArr (off' := i / 4) rfl rfl rfl Tryd.underlying41 sz40k (by omega) (by omega) (by show 0 + ((i : Int) / 4).toNat * 1 = i / 4; omega)) ?_
      refine L_v rfl rfl rfl (V_load1 2 rfl rfl rfl Tryd.underlying40 rfl (wl_getN (by show i / 4 < 8; omega))) ?_
      refine L_v rfl rfl rfl (V_move rfl rfl) ?_
      refine L_v rfl rfl rfl (V_rem rfl rfl rfl (by omega) (by first | exact r64 (by omega) | rfl)) ?_
      refine L_v rfl rfl rfl (V_mul rfl rfl rfl (by first | exact Go.IntWalk.i64_in _ (by omega) | rfl)) ?_
      refine L_v rfl rfl rfl (V_sub rfl rfl rfl (by first | exact Go.IntWalk.i64_in _ (by omega) | rfl)) ?_
      refine L_v rfl rfl rfl (V_shr rfl rfl rfl (by omega) (shr_db R (by omega))) ?_
      refine L_v rfl rfl rfl (V_conv rfl rfl Tryd.underlying40 Tryd.underlying5 (conv_db R i)) ?_
      refine L_v rfl rfl rfl (V_indexArr (off' := i) rfl rfl rfl Tryd.underlying26 sz5k (by omega) (by omega) (by show 0 + ((i : Nat) : Int).toNat * 1 = i; omega)) ?_
      refine L_store1 3 rfl rfl rfl rfl rfl rfl rfl sz5k (by rw [dg_length]; simp [dig_len, zd_length]; omega) (by rw [dg_set, dig_set (by omega)]) ?_
      refine L_nil ?_
      change J _ _ _ _
      refine J_region ?_
      refine L_v rfl rfl rfl (V_move rfl rfl) ?_
      refine L_v rfl rfl rfl (V_add rfl rfl rfl (by first | exact Go.IntWalk.i64_in _ (by omega) | rfl)) ?_
      refine L_v rfl rfl rfl (V_assign rfl rfl) ?_
      refine L_nil ?_
      exact ⟨i + 1, by omega, by omega, ⟨rfl, rfl, rfl, rfl, trivial⟩, List.Sublist.refl _, fun f hf => hf, rfl⟩
    ·
      first | (have h2 := h2; rw [decide_eq_true_eq] at h2) | (have h2 := h2; rw [decide_eq_false_iff_not] at h2) | skip
      obtain rfl : i = 32 := by omega
      have hd32 : (dig R).take 32 ++ zd.drop 32 = shaP L := by
        rw [List.take_of_length_le (by rw [dig_len]; exact Nat.le_refl _), show zd.drop 32 = [] from rfl, List.append_nil, hsh]
      rw [hd32]
      have hd33 := shaP_len L
      refine J_exit ?_
      change J _ _ _ _
      refine J_seq ?_
      refine J_region ?_
      refine L_v rfl rfl rfl (V_loadW 3 rfl rfl rfl Tryd.underlying26 rfl (szd sz26k (by first | (rw [dg_length]; exact shaP_len _) | rfl | (rw [dg_length]; assumption)))) ?_
      refine L_storeW 0 rfl rfl rfl rfl rfl rfl (szd sz26k (by first | (rw [dg_length]; exact shaP_len _) | rfl | (rw [dg_length]; assumption))) (by first | exact wl_one _ | exact hL_one _ _ _ | exact dg_one _) (by first | (rw [dg_length]; exact shaP_len _) | rfl | (rw [dg_length]; assumption)) ?_
      refine L_nil ?_
      change J _ _ _ _
      refine J_ret ?_
      change Kret _ _ _ Exit.ret _
      refine ret1 rfl rfl (RV_c 0 rfl rfl Tryd.underlying26 rfl (szd sz26k (by first | (rw [dg_length]; exact shaP_len _) | rfl | (rw [dg_length]; assumption)))) ?_
      exact fun w' h => ⟨rfl, h.fr⟩

theorem sums_w (w : World) (hK : TabK KT 1 w) :
    Calls Tryd.prog 9 #[] w fun e w' => e = .returned (.bool true) ∧ Fr [] w w' := by
  refine calls_of (args := []) ([]) ([]) ([]) Tryd.func9 rfl rfl (okW0 _ _ _ _) ?_
  refine J_seq ?_
  refine J_region ?_
  refine L_v rfl rfl rfl (V_assign rfl rfl) ?_
  refine L_nil ?_
  change J _ _ _ _
  refine J_seq ?_
  refine J_region ?_
  refine L_buildSlice (vs := [(0, .int .u8 97), (1, .int .u8 98), (2, .int .u8 99)]) (l := dg [97, 98, 99]) rfl rfl rfl rfl rfl bsA (fun b0 => ?_)
  refine L_cons rfl (S_mark 0 rfl rfl rfl rfl Tryd.underlying22 Tryd.underlying5 rfl ?_)
  refine L_callV rfl rfl rfl rfl rfl rfl tx10k (fun w1 hw => ssum_w [97, 98, 99] (some ⟨b0, 0, none⟩) 3 3 w1 (SlB.of_own hw (i := 0) (l := [97, 98, 99]) (r := []) rfl rfl 3) (by intro x hx; simp at hx; omega) (Nat.le_refl 3) (TabK.later hw (by simp) hK) (by decide)) ?_
  refine L_alloc rfl rfl rfl rfl z26k (fun b1 => ?_)
  refine L_storeW 1 rfl rfl rfl rfl rfl rfl (szd sz26k (by first | (rw [dg_length]; exact shaP_len _) | rfl | (rw [dg_length]; assumption))) (by first | exact wl_one _ | exact hL_one _ _ _ | exact dg_one _) (by first | (rw [dg_length]; exact shaP_len _) | rfl | (rw [dg_length]; assumption)) ?_
  refine L_nil ?_
  change J _ _ _ _
  refine J_seq ?_
  refine J_region ?_
  refine L_v rfl rfl rfl (V_indexArr rfl rfl rfl Tryd.underlying26 sz5k (by omega) (by omega) (by first | exact ix0 _ | exact ix1 _ _ | rfl)) ?_
  refine L_v rfl rfl rfl (V_load1 1 rfl rfl rfl Tryd.underlying5 rfl (by rw [abc]; rfl)) ?_
  refine L_v rfl rfl rfl (V_eql rfl rfl rfl (by first | exact decide_eq_true (by omega) | exact decide_eq_false (by omega) | rfl)) ?_
  refine L_v rfl rfl rfl (V_move rfl rfl) ?_
  refine L_wv rfl rfl rfl rfl rfl rfl (V_indexArr rfl rfl rfl Tryd.underlying26 sz5k (by omega) (by omega) (by first | exact ix0 _ | exact ix1 _ _ | rfl)) ?_
  refine L_wv rfl rfl rfl rfl rfl rfl (V_load1 1 rfl rfl rfl Tryd.underlying5 rfl (by rw [abc]; rfl)) ?_
  refine L_wv rfl rfl rfl rfl rfl rfl (V_eql rfl rfl rfl (by first | exact decide_eq_true (by omega) | exact decide_eq_false (by omega) | rfl)) ?_
  first | refine L_v rfl rfl rfl (V_pickT rfl rfl rfl) ?_ | refine L_v rfl rfl rfl (V_pickF rfl rfl rfl) ?_
  refine L_v rfl rfl rfl (V_move rfl rfl) ?_
  refine L_wv rfl rfl rfl rfl rfl rfl (V_indexArr rfl rfl rfl Tryd.underlying26 sz5k (by omega) (by omega) (by first | exact ix0 _ | exact ix1 _ _ | rfl)) ?_
  refine L_wv rfl rfl rfl rfl rfl rfl (V_load1 1 rfl rfl rfl Tryd.underlying5 rfl (by rw [abc]; rfl)) ?_
  refine L_wv rfl rfl rfl rfl rfl rfl (V_eql rfl rfl rfl (by first | exact decide_eq_true (by omega) | exact decide_eq_false (by omega) | rfl)) ?_
  first | refine L_v rfl rfl rfl (V_pickT rfl rfl rfl) ?_ | refine L_v rfl rfl rfl (V_pickF rfl rfl rfl) ?_
  refine L_v rfl rfl rfl (V_assign rfl rfl) ?_
  refine L_nil ?_
  change J _ _ _ _
  refine J_ret ?_
  change Kret _ _ _ Exit.ret _
  refine ret1 rfl rfl (RV_t rfl) ?_
  exact fun w' h => ⟨rfl, h.fr⟩

end Go.Proofs.YtejhcdjfcopphaaDoor
