/- What the law comes to. -/
import Derived.Test.YtimcondlcknbbaaDoorMac2
import Derived.Test.YtimcondlcknbbaaDoorKeep
set_option linter.unusedVariables false
set_option linter.unusedSimpArgs false
set_option maxRecDepth 100000
namespace Go.Proofs.YtimcondlcknbbaaDoor
open Go.Sx
theorem egD : Tryd.prog.eqGuardType Tryd.prog.depth 26 = false := by kernel_rfl
theorem ssum_b (L : List Int) (a : Option Addr) (n c : Nat) (w : World) (hu : SlB w (.slice a n c) L) (hby : Byt L) (hcn : n ≤ c) (hK : TabK KT 0 w) (hsz : L.length ≤ 1099511627000) {d : List Int} (h : shaP L = d) : Calls Tryd.prog 12 #[.slice a n c] w fun e w' => e = .returned (.agg (dg d).toArray) ∧ Fr [] w w' := by
  subst h
  exact ssum_w L a n c w hu hby hcn hK hsz
theorem sz5o : (Tryd.prog.info? 5).map (·.size) = some 1 := by kernel_rfl
theorem sz26o : (Tryd.prog.info? 26).map (·.size) = some 32 := by kernel_rfl
theorem tx8o : Txt Tryd.prog 8 := txt_of Tryd.func8 rfl (by kernel_rfl)
theorem tx9o : Txt Tryd.prog 9 := txt_of Tryd.func9 rfl (by kernel_rfl)
theorem tx12o : Txt Tryd.prog 12 := txt_of Tryd.func12 rfl (by kernel_rfl)
theorem bz5o : (Tryd.prog.info? 5).map (fun i => (i.zero, i.size)) = some (some (.int .u8 0), 1) := by kernel_rfl
theorem z26o : (Tryd.prog.info? 26).bind (·.zero) = some (.agg (dg zd).toArray) := by kernel_rfl

theorem MacKeys_in (key : List Int) (a : Option Addr) (n c : Nat) (l2 : List Int) (a2 : Option Addr) (n2 c2 : Nat) (w : World) (hu : SlB w (.slice a n c) key) (hby : Byt key) (hu2 : SlB w (.slice a2 n2 c2) l2) (hby2 : Byt l2) (hcn : n ≤ c) (hcn2 : n2 ≤ c2) (hK : TabK KT 0 w)  :
    Calls Tryd.prog 4 #[.slice a n c, .slice a2 n2 c2] w fun e w' => e = .returned (.bool true) ∧ Fr [] w w' := by
  have hul := hu.size
  have hul2 := hu2.size
  refine calls_of (args := [.slice a n c, .slice a2 n2 c2]) ([]) ([]) ([]) Tryd.func4 rfl rfl (okW0 _ _ _ _) ?_
  refine J_seq ?_
  refine J_region ?_
  refine L_v rfl rfl rfl (V_assign rfl rfl) ?_
  refine L_nil ?_
  change J _ _ _ _
  refine J_seq ?_
  refine J_seq ?_
  refine J_region ?_
  refine L_v rfl rfl rfl (V_move rfl rfl) ?_
  refine L_v rfl rfl rfl (V_len rfl rfl Tryd.underlying22 rfl) ?_
  refine L_v rfl rfl rfl (V_gtr rfl rfl rfl (by first | exact decide_eq_true (by omega) | exact decide_eq_false (by omega) | rfl)) ?_
  refine L_v rfl rfl rfl (V_move rfl rfl) ?_
  refine L_split 11 rfl (fun h1 => ?_) (fun h1 => ?_)
  ·
    first | (have h1 := h1; rw [decide_eq_true_eq] at h1) | (have h1 := h1; rw [decide_eq_false_iff_not] at h1) | skip
    refine L_skip rfl rfl rfl rfl rfl rfl rfl ?_
    refine L_skip rfl rfl rfl rfl rfl rfl rfl ?_
    refine L_skip rfl rfl rfl rfl rfl rfl rfl ?_
    first | refine L_v rfl rfl rfl (V_pickT rfl rfl rfl) ?_ | refine L_v rfl rfl rfl (V_pickF rfl rfl rfl) ?_
    refine L_nil ?_
    change J _ _ _ _
    refine J_true rfl ?_
    refine J_seq ?_
    refine J_region ?_
    refine L_v rfl rfl rfl (V_assign rfl rfl) ?_
    refine L_nil ?_
    change J _ _ _ _
    refine J_ret ?_
    change Kret _ _ _ Exit.ret _
    refine ret1 rfl rfl (RV_t rfl) ?_
    exact fun w' h => ⟨rfl, h.fr⟩
  ·
    first | (have h1 := h1; rw [decide_eq_true_eq] at h1) | (have h1 := h1; rw [decide_eq_false_iff_not] at h1) | skip
    refine L_wv rfl rfl rfl rfl rfl rfl (V_move rfl rfl) ?_
    refine L_wv rfl rfl rfl rfl rfl rfl (V_len rfl rfl Tryd.underlying22 rfl) ?_
    refine L_wv rfl rfl rfl rfl rfl rfl (V_gtr rfl rfl rfl (by first | exact decide_eq_true (by omega) | exact decide_eq_false (by omega) | rfl)) ?_
    first | refine L_v rfl rfl rfl (V_pickT rfl rfl rfl) ?_ | refine L_v rfl rfl rfl (V_pickF rfl rfl rfl) ?_
    refine L_nil ?_
    change J _ _ _ _
    refine J_cond rfl (fun h2 => ?_) (fun h2 => ?_)
    ·
      first | (have h2 := h2; rw [decide_eq_true_eq] at h2) | (have h2 := h2; rw [decide_eq_false_iff_not] at h2) | skip
      refine J_seq ?_
      refine J_region ?_
      refine L_v rfl rfl rfl (V_assign rfl rfl) ?_
      refine L_nil ?_
      change J _ _ _ _
      refine J_ret ?_
      change Kret _ _ _ Exit.ret _
      refine ret1 rfl rfl (RV_t rfl) ?_
      exact fun w' h => ⟨rfl, h.fr⟩
    ·
      first | (have h2 := h2; rw [decide_eq_true_eq] at h2) | (have h2 := h2; rw [decide_eq_false_iff_not] at h2) | skip
      refine J_skip ?_
      change J _ _ _ _
      refine J_seq ?_
      refine J_region ?_
      refine L_v rfl rfl rfl (V_move rfl rfl) ?_
      refine L_v rfl rfl rfl (V_move rfl rfl) ?_
      refine L_callV rfl rfl rfl rfl rfl rfl tx9o (fun w1 hw => mac_w key a n c l2 a2 n2 c2 w1 (SlB.later hw rfl hu) hby (SlB.later hw rfl hu2) hby2 hcn hcn2 (TabK.later hw (by simp) hK) (by omega) (by omega)) ?_
      refine L_alloc rfl rfl rfl rfl z26o (fun b0 => ?_)
      refine L_storeW 0 rfl rfl rfl rfl rfl rfl (szd sz26o (by first | (rw [dg_length]; exact shaP_len _) | (rw [dg_length]; exact macP_len _ _) | (rw [dg_length, dg_length, shaP_len]; rfl) | (rw [dg_length, dg_length, macP_len]; rfl) | (rw [dg_length, dg_length, hDD]; rfl) | (simp [dg_length, zd_length, *]; done))) (dg_one _) (by first | (rw [dg_length]; exact shaP_len _) | (rw [dg_length]; exact macP_len _ _) | (rw [dg_length, dg_length, shaP_len]; rfl) | (rw [dg_length, dg_length, macP_len]; rfl) | (rw [dg_length, dg_length, hDD]; rfl) | (simp [dg_length, zd_length, *]; done)) ?_
      refine L_nil ?_
      change J _ _ _ _
      refine J_seq ?_
      refine J_seq ?_
      refine J_region ?_
      refine L_v rfl rfl rfl (V_move rfl rfl) ?_
      refine L_v rfl rfl rfl (V_len rfl rfl Tryd.underlying22 rfl) ?_
      refine L_v rfl rfl rfl (V_gtr rfl rfl rfl (by first | exact decide_eq_true (by omega) | exact decide_eq_false (by omega) | rfl)) ?_
      refine L_nil ?_
      change J _ _ _ _
      refine J_cond rfl (fun h3 => ?_) (fun h3 => ?_)
      ·
        first | (have h3 := h3; rw [decide_eq_true_eq] at h3) | (have h3 := h3; rw [decide_eq_false_iff_not] at h3) | skip
        refine J_seq ?_
        refine J_region ?_
        refine L_v rfl rfl rfl (V_move rfl rfl) ?_
        refine L_callV rfl rfl rfl rfl rfl rfl tx12o (fun w1 hw => ssum_w key a n c w1 (SlB.later hw rfl hu) hby hcn (TabK.later hw (by simp) hK) (by omega)) ?_
        refine L_alloc rfl rfl rfl rfl z26o (fun b1 => ?_)
        refine L_storeW 1 rfl rfl rfl rfl rfl rfl (szd sz26o (by first | (rw [dg_length]; exact shaP_len _) | (rw [dg_length]; exact macP_len _ _) | (rw [dg_length, dg_length, shaP_len]; rfl) | (rw [dg_length, dg_length, macP_len]; rfl) | (rw [dg_length, dg_length, hDD]; rfl) | (simp [dg_length, zd_length, *]; done))) (dg_one _) (by first | (rw [dg_length]; exact shaP_len _) | (rw [dg_length]; exact macP_len _ _) | (rw [dg_length, dg_length, shaP_len]; rfl) | (rw [dg_length, dg_length, macP_len]; rfl) | (rw [dg_length, dg_length, hDD]; rfl) | (simp [dg_length, zd_length, *]; done)) ?_
        refine L_nil ?_
        change J _ _ _ _
        refine J_seq ?_
        refine J_regionQ rfl (by kernel_rfl) ?_
        refine LQ_callV rfl rfl rfl rfl rfl rfl tx8o (fun w1 hw => macs_w w1 (TabK.later hw (by simp) hK)) ?_
        refine LQ_v rfl rfl rfl (V_move rfl rfl) ?_
        refine LQ_wv rfl rfl rfl rfl rfl rfl (V_sliceArr rfl rfl Tryd.underlying26 sz5o) ?_
        refine LQ_wv rfl rfl rfl rfl rfl rfl (V_move rfl rfl) ?_
        refine LQ_wcallV rfl rfl rfl rfl rfl rfl rfl rfl rfl tx9o (fun w1 hw => mac_w (shaP key) (some ⟨b1, 0, none⟩) 32 32 l2 a2 n2 c2 w1 (SlB.of_mem' hw (i := 1) rfl (shaP_len key) 32) (shaP_byt _) (SlB.later hw rfl hu2) hby2 (Nat.le_refl 32) hcn2 (TabK.later hw (by simp) hK) (by rw [shaP_len]; decide) (by omega)) ?_
        refine LQ_wv rfl rfl rfl rfl rfl rfl (V_loadW 0 rfl rfl rfl Tryd.underlying26 rfl (szd sz26o (by first | (rw [dg_length]; exact shaP_len _) | (rw [dg_length]; exact macP_len _ _) | (rw [dg_length, dg_length, shaP_len]; rfl) | (rw [dg_length, dg_length, macP_len]; rfl) | (rw [dg_length, dg_length, hDD]; rfl) | (simp [dg_length, zd_length, *]; done)))) ?_
        refine LQ_wv rfl rfl rfl rfl rfl rfl (V_eqD rfl rfl rfl egD Tryd.underlying26 Tryd.underlying5 sz5o (by first | exact shaP_len _ | exact macP_len _ _ | assumption | rfl | (simp [*]; done)) (by first | exact shaP_len _ | exact macP_len _ _ | assumption | rfl | (simp [*]; done)) (by first | exact decide_eq_true (macP_self l2 (by omega)) | exact decide_eq_false (fun hne => hne (macP_zero l2 (by omega))))) ?_
        first | refine LQ_v rfl rfl rfl (V_pickT rfl rfl rfl) ?_ | refine LQ_v rfl rfl rfl (V_pickF rfl rfl rfl) ?_
        refine LQ_v rfl rfl rfl (V_assign rfl rfl) ?_
        refine LQ_nil ?_
        change J _ _ _ _
        refine J_ret ?_
        change Kret _ _ _ Exit.ret _
        refine ret1 rfl rfl (RV_t rfl) ?_
        exact fun w' h => ⟨rfl, h.fr⟩
      ·
        first | (have h3 := h3; rw [decide_eq_true_eq] at h3) | (have h3 := h3; rw [decide_eq_false_iff_not] at h3) | skip
        refine J_skip ?_
        change J _ _ _ _
        refine J_seq ?_
        refine J_region ?_
        refine L_v rfl rfl rfl (V_assign rfl rfl) ?_
        refine L_nil ?_
        change J _ _ _ _
        refine J_seq ?_
        refine J_region ?_
        refine L_v rfl rfl rfl (V_move rfl rfl) ?_
        refine L_v rfl rfl rfl (V_move rfl rfl) ?_
        refine L_appL [(b0, row 26 (dg (macP key l2)))] none [] (n' := n) (ks' := dg key) rfl rfl rfl rfl rfl Tryd.underlying22 elj rfl ⟨rfl, rfl⟩ (fun w hw => src_bytes' Tryd.underlying22 (SlB.later hw rfl hu) hul) (Nat.zero_add n) (List.nil_append _) (by omega) (by omega) (fun q0 hq0 => ?_)
        refine L_v rfl rfl rfl (V_assign rfl rfl) ?_
        refine L_nil ?_
        change J _ _ _ _
        refine J_seq ?_
        refine J_block ?_
        refine J_loop (X := Nat × OwnR) (fun x => { env := [(1, .slice a2 n2 c2), (5, .pointer (some ⟨b0, 0, none⟩)), (7, ownV x.2 (n + x.1))], mem := [(b0, row 26 (dg (macP key l2)))] ++ ownM 5 x.2 (dg (key ++ List.replicate x.1 0)) }) (fun x => n + x.1 ≤ 64 ∧ OwnC 1 x.2 (n + x.1) (dg (key ++ List.replicate x.1 0))) (fun x => 64 - (n + x.1)) (0, q0) ⟨by omega, by simpa using hq0⟩ ⟨⟨rfl, rfl, rfl, trivial⟩, (by simp only [List.replicate_zero, List.append_nil]; exact List.Sublist.refl _), fun f hf => hf, rfl⟩ ?_
        rintro ⟨j, q⟩ ⟨hj, hq⟩
        simp only at hj hq ⊢
        refine J_seq ?_
        refine J_seq ?_
        refine J_region ?_
        refine L_v rfl rfl rfl (V_move rfl rfl) ?_
        refine L_v rfl rfl rfl (V_len rfl rfl Tryd.underlying22 rfl) ?_
        refine L_v rfl rfl rfl (V_lss rfl rfl rfl (by first | exact decide_eq_true (by omega) | exact decide_eq_false (by omega) | rfl)) ?_
        refine L_nil ?_
        change J _ _ _ _
        refine J_cond rfl (fun h4 => ?_) (fun h4 => ?_)
        ·
          first | (have h4 := h4; rw [decide_eq_true_eq] at h4) | (have h4 := h4; rw [decide_eq_false_iff_not] at h4) | skip
          refine J_skip ?_
          change J _ _ _ _
          refine J_block ?_
          refine J_seq ?_
          refine J_region ?_
          refine L_v rfl rfl rfl (V_move rfl rfl) ?_
          refine L_bs1 rfl rfl rfl rfl rfl Tryd.underlying22 bz5o rfl rfl (fun b1 => ?_)
          refine L_appN [(b0, row 26 (dg (macP key l2)))] [(b1, row 5 [.int .u8 0])] q (dg (key ++ List.replicate j 0)) (n' := n + (j + 1)) (ks' := dg (key ++ List.replicate (j + 1) 0)) rfl rfl rfl rfl rfl Tryd.underlying22 elj (by show (_ ++ _) ++ _ = _; simp only [List.append_assoc]) hq (fun w hw => src_bytes' Tryd.underlying22 (SlB.in hw (l := [0]) (r := []) (fz := (0, 0)) (List.mem_append_right _ (List.mem_singleton.2 rfl)) rfl 1) rfl) (Nat.add_assoc n j 1) (by rw [List.replicate_succ', ← List.append_assoc, dg_append (key ++ _)]) (by omega) (by omega) (fun q' hq' => ?_)
          refine L_v rfl rfl rfl (V_assign rfl rfl) ?_
          refine L_nil ?_
          change J _ _ _ _
          refine J_seq ?_
          refine J_regionQ rfl (by kernel_rfl) ?_
          refine LQ_v rfl rfl rfl (V_move rfl rfl) ?_
          refine LQ_v rfl rfl rfl (V_move rfl rfl) ?_
          refine LQ_callV rfl rfl rfl rfl rfl rfl tx9o (fun w1 hw => mac_w (key ++ List.replicate (j + 1) 0) (oA q') (n + (j + 1)) (oC q') l2 a2 n2 c2 w1 (SlB.ofM hw (fun p hp => List.mem_append_right _ (List.mem_append_left _ hp)) hq' rfl) (hby.append (fun x hx => by have := List.eq_of_mem_replicate hx; omega)) (SlB.later hw rfl hu2) hby2 hq'.le hcn2 (TabK.later hw (by simp) hK) (by rw [List.length_append, List.length_replicate]; omega) (by omega)) ?_
          refine LQ_v rfl rfl rfl (V_loadW 0 rfl rfl rfl Tryd.underlying26 rfl (szd sz26o (by first | (rw [dg_length]; exact shaP_len _) | (rw [dg_length]; exact macP_len _ _) | (rw [dg_length, dg_length, shaP_len]; rfl) | (rw [dg_length, dg_length, macP_len]; rfl) | (rw [dg_length, dg_length, hDD]; rfl) | (simp [dg_length, zd_length, *]; done)))) ?_
          refine LQ_v rfl rfl rfl (V_neD rfl rfl rfl egD Tryd.underlying26 Tryd.underlying5 sz5o (by first | exact shaP_len _ | exact macP_len _ _ | assumption | rfl | (simp [*]; done)) (by first | exact shaP_len _ | exact macP_len _ _ | assumption | rfl | (simp [*]; done)) (by first | exact decide_eq_true (macP_self l2 (by omega)) | exact decide_eq_false (fun hne => hne (macP_zero l2 (by omega))))) ?_
          refine LQ_nil ?_
          change J _ _ _ _
          refine J_false rfl ?_
          refine J_skip ?_
          exact ⟨(j + 1, q'), ⟨by show n + (j + 1) ≤ 64; omega, hq'⟩, by show 64 - (n + (j + 1)) < 64 - (n + j); omega, ⟨rfl, rfl, rfl, trivial⟩, (by show List.Sublist (_ ++ _) (_ ++ (_ ++ _)); rw [← List.append_assoc]; exact List.sublist_append_left _ _), fun f hf => hf, rfl⟩
        ·
          first | (have h4 := h4; rw [decide_eq_true_eq] at h4) | (have h4 := h4; rw [decide_eq_false_iff_not] at h4) | skip
          refine J_exit ?_
          change J _ _ _ _
          refine J_seq ?_
          refine J_region ?_
          refine L_callV rfl rfl rfl rfl rfl rfl tx8o (fun w1 hw => macs_w w1 (TabK.later hw (by simp) hK)) ?_
          refine L_v rfl rfl rfl (V_assign rfl rfl) ?_
          refine L_nil ?_
          change J _ _ _ _
          refine J_ret ?_
          change Kret _ _ _ Exit.ret _
          refine ret1 rfl rfl (RV_t rfl) ?_
          exact fun w' h => ⟨rfl, h.fr⟩

theorem MacKeys_w (u : Value) (l : List Int) (u2 : Value) (l2 : List Int) (w : World) (hv : SlB w u l) (hv2 : SlB w u2 l2) (hby : Byt l) (hby2 : Byt l2) (hq : ∀ a n c, u = .slice a n c → n ≤ c) (hq2 : ∀ a n c, u2 = .slice a n c → n ≤ c) (hK : TabK KT 0 w)  :
    Calls Tryd.prog 4 #[u, u2] w fun e w' => e = .returned (.bool true) ∧ Fr [] w w' := by
  obtain ⟨a, c, rfl⟩ := hv.form
  obtain ⟨a2, c2, rfl⟩ := hv2.form
  exact MacKeys_in l a _ c l2 a2 _ c2 w hv hby hv2 hby2 (hq _ _ _ rfl) (hq2 _ _ _ rfl) hK
end Go.Proofs.YtimcondlcknbbaaDoor
