/- What the law comes to. -/
import Derived.Test.YtimcondlcknbbaaDoorMac2
import Derived.Test.YtimcondlcknbbaaDoorKeep
set_option linter.unusedVariables false
set_option linter.unusedSimpArgs false
set_option maxRecDepth 100000
namespace Go.Proofs.YtimcondlcknbbaaDoor
open Go.Sx
theorem egD : Tryd.prog.eqGuardType Tryd.prog.depth 26 = false := by kernel_rfl
theorem ssum_b (L : List Int) (a : Option Addr) (n c : Nat) (w : World) (hu : SlB w (.slice a n c) L) (hby : Byt L) (hcn : n ≤ c) (hK : TabK KT 0 w) (hsz : L.length ≤ 1099511627000) {d : List Int} (h : shaP L = d) : Calls Tryd.prog 12 #[.slice a n c] w fun e w' => e = .returned (.agg (dg d).toArray) ∧ Fr [] w w' := by
  subst h
  exact ssum_w L a n c w hu hby hcn hK hsz
theorem sz5o : (Tryd.prog.info? 5).map (·.size) = some 1 := by kernel_rfl
theorem tx7o : Txt Tryd.prog 7 := txt_of Tryd.func7 rfl (by kernel_rfl)
theorem tx8o : Txt Tryd.prog 8 := txt_of Tryd.func8 rfl (by kernel_rfl)
theorem tx9o : Txt Tryd.prog 9 := txt_of Tryd.func9 rfl (by kernel_rfl)
theorem tx10o : Txt Tryd.prog 10 := txt_of Tryd.func10 rfl (by kernel_rfl)
theorem tx11o : Txt Tryd.prog 11 := txt_of Tryd.func11 rfl (by kernel_rfl)

theorem MacMacs_in (key : List Int) (a : Option Addr) (n c : Nat) (l2 : List Int) (a2 : Option Addr) (n2 c2 : Nat) (w : World) (hu : SlB w (.slice a n c) key) (hby : Byt key) (hu2 : SlB w (.slice a2 n2 c2) l2) (hby2 : Byt l2) (hcn : n ≤ c) (hcn2 : n2 ≤ c2) (hK : TabK KT 0 w) (hR : TabK KT 1 w)  :
    Calls Tryd.prog 3 #[.slice a n c, .slice a2 n2 c2] w fun e w' => e = .returned (.bool true) ∧ Fr [] w w' := by
  have hul := hu.size
  have hul2 := hu2.size
  refine calls_of (args := [.slice a n c, .slice a2 n2 c2]) ([]) ([]) ([]) Tryd.func3 rfl rfl (okW0 _ _ _ _) ?_
  refine J_seq ?_
  refine J_region ?_
  refine L_v rfl rfl rfl (V_assign rfl rfl) ?_
  refine L_nil ?_
  change J _ _ _ _
  refine J_seq ?_
  refine J_seq ?_
  refine J_region ?_
  refine L_v rfl rfl rfl (V_move rfl rfl) ?_
  refine L_v rfl rfl rfl (V_len rfl rfl Tryd.underlying22 rfl) ?_
  refine L_v rfl rfl rfl (V_gtr rfl rfl rfl (by first | exact decide_eq_true (by omega) | exact decide_eq_false (by omega) | rfl)) ?_
  refine L_v rfl rfl rfl (V_move rfl rfl) ?_
  refine L_split 10 rfl (fun h1 => ?_) (fun h1 => ?_)
  ·
    first | (have h1 := h1; rw [decide_eq_true_eq] at h1) | (have h1 := h1; rw [decide_eq_false_iff_not] at h1) | skip
    refine L_skip rfl rfl rfl rfl rfl rfl rfl ?_
    refine L_skip rfl rfl rfl rfl rfl rfl rfl ?_
    refine L_skip rfl rfl rfl rfl rfl rfl rfl ?_
    first | refine L_v rfl rfl rfl (V_pickT rfl rfl rfl) ?_ | refine L_v rfl rfl rfl (V_pickF rfl rfl rfl) ?_
    refine L_nil ?_
    change J _ _ _ _
    refine J_true rfl ?_
    refine J_seq ?_
    refine J_region ?_
    refine L_v rfl rfl rfl (V_assign rfl rfl) ?_
    refine L_nil ?_
    change J _ _ _ _
    refine J_ret ?_
    change Kret _ _ _ Exit.ret _
    refine ret1 rfl rfl (RV_t rfl) ?_
    exact fun w' h => ⟨rfl, h.fr⟩
  ·
    first | (have h1 := h1; rw [decide_eq_true_eq] at h1) | (have h1 := h1; rw [decide_eq_false_iff_not] at h1) | skip
    refine L_wv rfl rfl rfl rfl rfl rfl (V_move rfl rfl) ?_
    refine L_wv rfl rfl rfl rfl rfl rfl (V_len rfl rfl Tryd.underlying22 rfl) ?_
    refine L_wv rfl rfl rfl rfl rfl rfl (V_gtr rfl rfl rfl (by first | exact decide_eq_true (by omega) | exact decide_eq_false (by omega) | rfl)) ?_
    first | refine L_v rfl rfl rfl (V_pickT rfl rfl rfl) ?_ | refine L_v rfl rfl rfl (V_pickF rfl rfl rfl) ?_
    refine L_nil ?_
    change J _ _ _ _
    refine J_cond rfl (fun h2 => ?_) (fun h2 => ?_)
    ·
      first | (have h2 := h2; rw [decide_eq_true_eq] at h2) | (have h2 := h2; rw [decide_eq_false_iff_not] at h2) | skip
      refine J_seq ?_
      refine J_region ?_
      refine L_v rfl rfl rfl (V_assign rfl rfl) ?_
      refine L_nil ?_
      change J _ _ _ _
      refine J_ret ?_
      change Kret _ _ _ Exit.ret _
      refine ret1 rfl rfl (RV_t rfl) ?_
      exact fun w' h => ⟨rfl, h.fr⟩
    ·
      first | (have h2 := h2; rw [decide_eq_true_eq] at h2) | (have h2 := h2; rw [decide_eq_false_iff_not] at h2) | skip
      refine J_skip ?_
      change J _ _ _ _
      refine J_seq ?_
      refine J_region ?_
      refine L_v rfl rfl rfl (V_move rfl rfl) ?_
      refine L_call rfl rfl rfl rfl tx7o (fun w hw => (lent_w a n c key w (SlB.later hw rfl hu) (by omega)).mono ?_)
      rintro e w' ⟨g3, r3, c3, rfl, hn3, hc3, hr3⟩
      refine ⟨_, _, _, rfl, hn3.okW hw, rfl, ?_⟩
      refine L_v rfl rfl rfl (V_assign rfl rfl) ?_
      refine L_nil ?_
      change J _ _ _ _
      refine J_seq ?_
      refine J_region ?_
      refine L_v rfl rfl rfl (V_move rfl rfl) ?_
      refine L_call rfl rfl rfl rfl tx7o (fun w hw => (lent_w a2 n2 c2 l2 w (SlB.later hw rfl hu2) (by omega)).mono ?_)
      rintro e w' ⟨g4, r4, c4, rfl, hn4, hc4, hr4⟩
      refine ⟨_, _, _, rfl, hn4.okW hw, rfl, ?_⟩
      refine L_v rfl rfl rfl (V_assign rfl rfl) ?_
      refine L_nil ?_
      change J _ _ _ _
      refine J_seq ?_
      refine J_region ?_
      refine L_callV rfl rfl rfl rfl rfl rfl tx8o (fun w1 hw => macs_w w1 (TabK.later hw (by simp) hK)) ?_
      refine L_v rfl rfl rfl (V_move rfl rfl) ?_
      refine L_wv rfl rfl rfl rfl rfl rfl (V_move rfl rfl) ?_
      refine L_wv rfl rfl rfl rfl rfl rfl (V_move rfl rfl) ?_
      refine L_wcallV rfl rfl rfl rfl rfl rfl rfl rfl rfl tx9o (fun w1 hw => mac_w key (some ⟨g3, 0, none⟩) n c3 l2 (some ⟨g4, 0, none⟩) n2 c4 w1 (SlB.of_own hw (i := 0) rfl hul c3) hby (SlB.of_own hw (i := 1) rfl hul2 c4) hby2 (by omega) (by omega) (TabK.later hw (by simp) hK) (by omega) (by omega)) ?_
      refine L_wv rfl rfl rfl rfl rfl rfl (V_move rfl rfl) ?_
      refine L_wv rfl rfl rfl rfl rfl rfl (V_move rfl rfl) ?_
      refine L_wcallV rfl rfl rfl rfl rfl rfl rfl rfl rfl tx10o (fun w1 hw => rmac_w key a n c l2 a2 n2 c2 w1 (SlB.later hw rfl hu) hby (SlB.later hw rfl hu2) hby2 (TabK.later hw (by simp) hR) (by omega) (by omega)) ?_
      refine L_wv rfl rfl rfl rfl rfl rfl (V_eqD rfl rfl rfl egD Tryd.underlying26 Tryd.underlying5 sz5o (by first | exact shaP_len _ | exact macP_len _ _ | assumption | rfl | (simp [*]; done)) (by first | exact shaP_len _ | exact macP_len _ _ | assumption | rfl | (simp [*]; done)) (decide_eq_true rfl)) ?_
      first | refine L_v rfl rfl rfl (V_pickT rfl rfl rfl) ?_ | refine L_v rfl rfl rfl (V_pickF rfl rfl rfl) ?_
      refine L_v rfl rfl rfl (V_move rfl rfl) ?_
      refine L_wv rfl rfl rfl rfl rfl rfl (V_move rfl rfl) ?_
      refine L_wv rfl rfl rfl rfl rfl rfl (V_move rfl rfl) ?_
      refine L_wcallV rfl rfl rfl rfl rfl rfl rfl rfl rfl tx11o (fun w1 hw => kept_w (some ⟨g3, 0, none⟩) n c3 key a c w1 (SlB.of_own hw (i := 0) rfl hul c3) (SlB.of_own hw (i := 0) (l := key ++ List.replicate 8 165) (r := r3) (by show some _ = some _; rw [dg_append, List.append_assoc]) (by rw [List.length_append, hul]; rfl) c3) (SlB.later hw rfl hu) (by omega) hc3) ?_
      first | refine L_v rfl rfl rfl (V_pickT rfl rfl rfl) ?_ | refine L_v rfl rfl rfl (V_pickF rfl rfl rfl) ?_
      refine L_v rfl rfl rfl (V_move rfl rfl) ?_
      refine L_wv rfl rfl rfl rfl rfl rfl (V_move rfl rfl) ?_
      refine L_wv rfl rfl rfl rfl rfl rfl (V_move rfl rfl) ?_
      refine L_wcallV rfl rfl rfl rfl rfl rfl rfl rfl rfl tx11o (fun w1 hw => kept_w (some ⟨g4, 0, none⟩) n2 c4 l2 a2 c2 w1 (SlB.of_own hw (i := 1) rfl hul2 c4) (SlB.of_own hw (i := 1) (l := l2 ++ List.replicate 8 165) (r := r4) (by show some _ = some _; rw [dg_append, List.append_assoc]) (by rw [List.length_append, hul2]; rfl) c4) (SlB.later hw rfl hu2) (by omega) hc4) ?_
      first | refine L_v rfl rfl rfl (V_pickT rfl rfl rfl) ?_ | refine L_v rfl rfl rfl (V_pickF rfl rfl rfl) ?_
      refine L_v rfl rfl rfl (V_assign rfl rfl) ?_
      refine L_nil ?_
      change J _ _ _ _
      refine J_ret ?_
      change Kret _ _ _ Exit.ret _
      refine ret1 rfl rfl (RV_t rfl) ?_
      exact fun w' h => ⟨rfl, h.fr⟩

theorem MacMacs_w (u : Value) (l : List Int) (u2 : Value) (l2 : List Int) (w : World) (hv : SlB w u l) (hv2 : SlB w u2 l2) (hby : Byt l) (hby2 : Byt l2) (hq : ∀ a n c, u = .slice a n c → n ≤ c) (hq2 : ∀ a n c, u2 = .slice a n c → n ≤ c) (hK : TabK KT 0 w) (hR : TabK KT 1 w)  :
    Calls Tryd.prog 3 #[u, u2] w fun e w' => e = .returned (.bool true) ∧ Fr [] w w' := by
  obtain ⟨a, c, rfl⟩ := hv.form
  obtain ⟨a2, c2, rfl⟩ := hv2.form
  exact MacMacs_in l a _ c l2 a2 _ c2 w hv hby hv2 hby2 (hq _ _ _ rfl) (hq2 _ _ _ rfl) hK hR
end Go.Proofs.YtimcondlcknbbaaDoor
