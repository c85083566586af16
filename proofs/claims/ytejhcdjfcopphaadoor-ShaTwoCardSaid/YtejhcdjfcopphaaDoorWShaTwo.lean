/- What the law comes to. -/
import Derived.Test.YtejhcdjfcopphaaDoorSha4
import Derived.Test.YtejhcdjfcopphaaDoorKeep
set_option linter.unusedVariables false
set_option linter.unusedSimpArgs false
set_option maxRecDepth 100000
namespace Go.Proofs.YtejhcdjfcopphaaDoor
open Go.Sx
theorem egD : Tryd.prog.eqGuardType Tryd.prog.depth 26 = false := by kernel_rfl
theorem bd0 (w : World) : (Instr.build 26 ([] : List (Nat × Value)).toArray).run Tryd.prog w = .ok (.agg (dg zd).toArray) w := by kernel_rfl
theorem sz5l : (Tryd.prog.info? 5).map (·.size) = some 1 := by kernel_rfl
theorem tx9l : Txt Tryd.prog 9 := txt_of Tryd.func9 rfl (by kernel_rfl)
theorem tx10l : Txt Tryd.prog 10 := txt_of Tryd.func10 rfl (by kernel_rfl)
theorem tx14l : Txt Tryd.prog 14 := txt_of Tryd.func14 rfl (by kernel_rfl)
theorem tx15l : Txt Tryd.prog 15 := txt_of Tryd.func15 rfl (by kernel_rfl)
theorem tx16l : Txt Tryd.prog 16 := txt_of Tryd.func16 rfl (by kernel_rfl)

theorem ShaTwo_in (a : Option Addr) (n c : Nat) (l : List Int) (a2 : Option Addr) (n2 c2 : Nat) (l2 : List Int) (w : World) (hu : SlB w (.slice a n c) l) (hu2 : SlB w (.slice a2 n2 c2) l2) (hby : Byt l) (hby2 : Byt l2) (hcn : n ≤ c) (hcn2 : n2 ≤ c2) (hK : TabK KT 1 w)  :
    Calls Tryd.prog 5 #[.slice a n c, .slice a2 n2 c2] w fun e w' => e = .returned (.bool true) ∧ Fr [] w w' := by
  have hl := hu.size
  have hl2 := hu2.size
  refine calls_of (args := [.slice a n c, .slice a2 n2 c2]) ([]) ([]) ([]) Tryd.func5 rfl rfl (okW0 _ _ _ _) ?_
  refine J_seq ?_
  refine J_region ?_
  refine L_v rfl rfl rfl (V_assign rfl rfl) ?_
  refine L_nil ?_
  change J _ _ _ _
  refine J_seq ?_
  refine J_seq ?_
  refine J_region ?_
  refine L_v rfl rfl rfl (V_move rfl rfl) ?_
  refine L_v rfl rfl rfl (V_len rfl rfl Tryd.underlying22 rfl) ?_
  refine L_v rfl rfl rfl (V_gtr rfl rfl rfl (by first | exact decide_eq_true (by omega) | exact decide_eq_false (by omega) | rfl)) ?_
  refine L_v rfl rfl rfl (V_move rfl rfl) ?_
  refine L_split 14 rfl (fun h1 => ?_) (fun h1 => ?_)
  ·
    first | (have h1 := h1; rw [decide_eq_true_eq] at h1) | (have h1 := h1; rw [decide_eq_false_iff_not] at h1) | skip
    refine L_skip rfl rfl rfl rfl rfl rfl rfl ?_
    refine L_skip rfl rfl rfl rfl rfl rfl rfl ?_
    refine L_skip rfl rfl rfl rfl rfl rfl rfl ?_
    first | refine L_v rfl rfl rfl (V_pickT rfl rfl rfl) ?_ | refine L_v rfl rfl rfl (V_pickF rfl rfl rfl) ?_
    refine L_nil ?_
    change J _ _ _ _
    refine J_true rfl ?_
    refine J_seq ?_
    refine J_region ?_
    refine L_v rfl rfl rfl (V_assign rfl rfl) ?_
    refine L_nil ?_
    change J _ _ _ _
    refine J_ret ?_
    change Kret _ _ _ Exit.ret _
    refine ret1 rfl rfl (RV_t rfl) ?_
    exact fun w' h => ⟨rfl, h.fr⟩
  ·
    first | (have h1 := h1; rw [decide_eq_true_eq] at h1) | (have h1 := h1; rw [decide_eq_false_iff_not] at h1) | skip
    refine L_wv rfl rfl rfl rfl rfl rfl (V_move rfl rfl) ?_
    refine L_wv rfl rfl rfl rfl rfl rfl (V_len rfl rfl Tryd.underlying22 rfl) ?_
    refine L_wv rfl rfl rfl rfl rfl rfl (V_gtr rfl rfl rfl (by first | exact decide_eq_true (by omega) | exact decide_eq_false (by omega) | rfl)) ?_
    first | refine L_v rfl rfl rfl (V_pickT rfl rfl rfl) ?_ | refine L_v rfl rfl rfl (V_pickF rfl rfl rfl) ?_
    refine L_nil ?_
    change J _ _ _ _
    refine J_cond rfl (fun h2 => ?_) (fun h2 => ?_)
    ·
      first | (have h2 := h2; rw [decide_eq_true_eq] at h2) | (have h2 := h2; rw [decide_eq_false_iff_not] at h2) | skip
      refine J_seq ?_
      refine J_region ?_
      refine L_v rfl rfl rfl (V_assign rfl rfl) ?_
      refine L_nil ?_
      change J _ _ _ _
      refine J_ret ?_
      change Kret _ _ _ Exit.ret _
      refine ret1 rfl rfl (RV_t rfl) ?_
      exact fun w' h => ⟨rfl, h.fr⟩
    ·
      first | (have h2 := h2; rw [decide_eq_true_eq] at h2) | (have h2 := h2; rw [decide_eq_false_iff_not] at h2) | skip
      refine J_skip ?_
      change J _ _ _ _
      refine J_seq ?_
      refine J_region ?_
      refine L_call rfl rfl rfl rfl tx14l (fun w1 hw => (hnew_w w1).mono ?_)
      rintro e w' ⟨b0, rfl, hfr0, hsz0, hb0⟩
      refine ⟨_, _, _, rfl, hw.add hfr0 hb0 hsz0, rfl, ?_⟩
      refine L_v rfl rfl rfl (V_assign rfl rfl) ?_
      refine L_nil ?_
      change J _ _ _ _
      refine J_seq ?_
      refine J_region ?_
      refine L_call rfl rfl rfl rfl tx14l (fun w1 hw => (hnew_w w1).mono ?_)
      rintro e w' ⟨b1, rfl, hfr1, hsz1, hb1⟩
      refine ⟨_, _, _, rfl, hw.add hfr1 hb1 hsz1, rfl, ?_⟩
      refine L_v rfl rfl rfl (V_assign rfl rfl) ?_
      refine L_nil ?_
      change J _ _ _ _
      refine J_seq ?_
      refine J_seq ?_
      refine J_region ?_
      refine L_v rfl rfl rfl (V_move rfl rfl) ?_
      refine L_v rfl rfl rfl (V_eqP rfl rfl rfl Tryd.underlying31 rfl) ?_
      refine L_v rfl rfl rfl (V_move rfl rfl) ?_
      refine L_wv rfl rfl rfl rfl rfl rfl (V_move rfl rfl) ?_
      refine L_wv rfl rfl rfl rfl rfl rfl (V_eqP rfl rfl rfl Tryd.underlying31 rfl) ?_
      first | refine L_v rfl rfl rfl (V_pickT rfl rfl rfl) ?_ | refine L_v rfl rfl rfl (V_pickF rfl rfl rfl) ?_
      refine L_nil ?_
      change J _ _ _ _
      refine J_false rfl ?_
      refine J_skip ?_
      change J _ _ _ _
      refine J_seq ?_
      refine J_region ?_
      refine L_v rfl rfl rfl (V_move rfl rfl) ?_
      refine L_v rfl rfl rfl (V_move rfl rfl) ?_
      refine L_call rfl rfl rfl rfl tx15l (fun w1 hw => (write_w b0 R0 (List.replicate 64 0) [] l a n c w1 (hw.at (i := 0) rfl) hs0 (SlB.later hw rfl hu) (apF hu (hw.ge rfl (i := 0) rfl)) hby hcn (TabK.later hw (by simp) hK) fun e => by have h1 : w.heap.size ≤ b0 := hw.ge rfl (i := 0) rfl; have h2 := hK.lt; omega (by simp; omega)).mono ?_)
      rintro e w' ⟨ws2, bl2, rfl, hfr2, hb2, hs2⟩
      refine ⟨_, _, _, rfl, hw.set (i := 0) rfl hfr2 hb2, rfl, ?_⟩
      refine L_v rfl rfl rfl (V_assign rfl rfl) ?_
      refine L_nil ?_
      change J _ _ _ _
      refine J_seq ?_
      refine J_region ?_
      refine L_v rfl rfl rfl (V_move rfl rfl) ?_
      refine L_v rfl rfl rfl (V_move rfl rfl) ?_
      refine L_call rfl rfl rfl rfl tx15l (fun w1 hw => (write_w b1 R0 (List.replicate 64 0) [] l2 a2 n2 c2 w1 (hw.at (i := 1) rfl) hs0 (SlB.later hw rfl hu2) (apF hu2 (hw.ge rfl (i := 1) rfl)) hby2 hcn2 (TabK.later hw (by simp) hK) fun e => by have h1 : w.heap.size ≤ b1 := hw.ge rfl (i := 1) rfl; have h2 := hK.lt; omega (by simp; omega)).mono ?_)
      rintro e w' ⟨ws3, bl3, rfl, hfr3, hb3, hs3⟩
      refine ⟨_, _, _, rfl, hw.set (i := 1) rfl hfr3 hb3, rfl, ?_⟩
      refine L_v rfl rfl rfl (V_assign rfl rfl) ?_
      refine L_nil ?_
      change J _ _ _ _
      refine J_seq ?_
      refine J_region ?_
      refine L_v rfl rfl rfl (V_move rfl rfl) ?_
      refine L_v rfl rfl rfl (V_move rfl rfl) ?_
      refine L_call rfl rfl rfl rfl tx15l (fun w1 hw => (write_w b0 ws2 bl2 l l2 a2 n2 c2 w1 (by have h9 := hw.at (i := 0) rfl; rw [show ([] : List Int).length + l.length = l.length by simp] at h9; exact h9) hs2 (SlB.later hw rfl hu2) (apF hu2 (hw.ge rfl (i := 0) rfl)) hby2 hcn2 (TabK.later hw (by simp) hK) fun e => by have h1 : w.heap.size ≤ b0 := hw.ge rfl (i := 0) rfl; have h2 := hK.lt; omega (by omega)).mono ?_)
      rintro e w' ⟨ws4, bl4, rfl, hfr4, hb4, hs4⟩
      refine ⟨_, _, _, rfl, hw.set (i := 0) rfl hfr4 hb4, rfl, ?_⟩
      refine L_v rfl rfl rfl (V_assign rfl rfl) ?_
      refine L_nil ?_
      change J _ _ _ _
      refine J_seq ?_
      refine J_region ?_
      refine L_v rfl rfl rfl (V_assign rfl rfl) ?_
      refine L_nil ?_
      change J _ _ _ _
      refine J_seq ?_
      refine J_region ?_
      refine L_v rfl rfl rfl (V_move rfl rfl) ?_
      refine L_v rfl rfl rfl (V_move rfl rfl) ?_
      refine L_appL [(b0, row 48 (hL ws4.l bl4 ((l.length + l2.length : Nat) : Int))), (b1, row 48 (hL ws3.l bl3 ((([] : List Int).length + l2.length : Nat) : Int)))] none [] (n' := n) (ks' := dg l) rfl rfl rfl rfl rfl Tryd.underlying22 elj rfl ⟨rfl, rfl⟩ (fun w hw => src_bytes' Tryd.underlying22 (SlB.later hw rfl hu) hl) (Nat.zero_add n) (List.nil_append _) (by omega) (by omega) (fun q0 hq0 => ?_)
      refine L_v rfl rfl rfl (V_assign rfl rfl) ?_
      refine L_nil ?_
      change J _ _ _ _
      refine J_seq ?_
      refine J_region ?_
      refine L_v rfl rfl rfl (V_move rfl rfl) ?_
      refine L_v rfl rfl rfl (V_move rfl rfl) ?_
      refine L_appL [(b0, row 48 (hL ws4.l bl4 ((l.length + l2.length : Nat) : Int))), (b1, row 48 (hL ws3.l bl3 ((([] : List Int).length + l2.length : Nat) : Int)))] q0 (dg l) (n' := n + n2) (ks' := dg (l ++ l2)) rfl rfl rfl rfl rfl Tryd.underlying22 elj rfl hq0 (fun w hw => src_bytes' Tryd.underlying22 (SlB.later hw rfl hu2) hl2) rfl (dg_append _ _).symm (by omega) (by omega) (fun q1 hq1 => ?_)
      refine L_v rfl rfl rfl (V_assign rfl rfl) ?_
      refine L_nil ?_
      change J _ _ _ _
      refine J_seq ?_
      refine J_region ?_
      refine L_callV rfl rfl rfl rfl rfl rfl tx9l (fun w1 hw => sums_w w1 (TabK.later hw (by simp) hK)) ?_
      refine L_v rfl rfl rfl (V_move rfl rfl) ?_
      refine L_wv rfl rfl rfl rfl rfl rfl (V_move rfl rfl) ?_
      refine L_wv rfl rfl rfl rfl rfl rfl (V_eql rfl rfl rfl (by first | exact decide_eq_true (by omega) | exact decide_eq_false (by omega) | rfl)) ?_
      first | refine L_v rfl rfl rfl (V_pickT rfl rfl rfl) ?_ | refine L_v rfl rfl rfl (V_pickF rfl rfl rfl) ?_
      refine L_v rfl rfl rfl (V_move rfl rfl) ?_
      refine L_wv rfl rfl rfl rfl rfl rfl (V_move rfl rfl) ?_
      refine L_wv rfl rfl rfl rfl rfl rfl (V_eql rfl rfl rfl (by first | exact decide_eq_true (by omega) | exact decide_eq_false (by omega) | rfl)) ?_
      first | refine L_v rfl rfl rfl (V_pickT rfl rfl rfl) ?_ | refine L_v rfl rfl rfl (V_pickF rfl rfl rfl) ?_
      refine L_v rfl rfl rfl (V_move rfl rfl) ?_
      refine L_wv rfl rfl rfl rfl rfl rfl (V_move rfl rfl) ?_
      refine L_wv rfl rfl rfl rfl rfl rfl (V_eql rfl rfl rfl (by first | exact decide_eq_true (by omega) | exact decide_eq_false (by omega) | rfl)) ?_
      first | refine L_v rfl rfl rfl (V_pickT rfl rfl rfl) ?_ | refine L_v rfl rfl rfl (V_pickF rfl rfl rfl) ?_
      refine L_v rfl rfl rfl (V_move rfl rfl) ?_
      refine L_wv rfl rfl rfl rfl rfl rfl (V_move rfl rfl) ?_
      refine L_wcallV rfl rfl rfl rfl rfl rfl rfl rfl rfl tx16l (fun w1 hw => hsum_w b0 ws4 bl4 (l ++ l2) w1 (by rw [List.length_append]; exact hw.at (i := 0) rfl) hs4 (TabK.later hw (by simp) hK) (by rw [List.length_append]; omega)) ?_
      refine L_wv rfl rfl rfl rfl rfl rfl (V_move rfl rfl) ?_
      refine L_wcallV rfl rfl rfl rfl rfl rfl rfl rfl rfl tx10l (fun w1 hw => ssum_w (l ++ l2) (oA q1) (n + n2) (oC q1) w1 (SlB.ofM hw (fun p hp => by first | exact hp | exact List.mem_append_right _ hp | exact List.mem_append_left _ hp) hq1 rfl) (hby.append hby2) hq1.le (TabK.later hw (by simp) hK) (by rw [List.length_append]; omega)) ?_
      refine L_wv rfl rfl rfl rfl rfl rfl (V_eqD rfl rfl rfl egD Tryd.underlying26 Tryd.underlying5 sz5l (by first | exact shaP_len _ | rfl) (by first | exact shaP_len _ | rfl) (decide_eq_true rfl)) ?_
      first | refine L_v rfl rfl rfl (V_pickT rfl rfl rfl) ?_ | refine L_v rfl rfl rfl (V_pickF rfl rfl rfl) ?_
      refine L_v rfl rfl rfl (V_move rfl rfl) ?_
      refine L_wv rfl rfl rfl rfl rfl rfl (V_move rfl rfl) ?_
      refine L_wcallV rfl rfl rfl rfl rfl rfl rfl rfl rfl tx16l (fun w1 hw => hsum_w b1 ws3 bl3 l2 w1 (by have h9 := hw.at (i := 1) rfl; rw [show ([] : List Int).length + l2.length = l2.length by simp] at h9; exact h9) hs3 (TabK.later hw (by simp) hK) (by omega)) ?_
      refine L_wv rfl rfl rfl rfl rfl rfl (V_move rfl rfl) ?_
      refine L_wcallV rfl rfl rfl rfl rfl rfl rfl rfl rfl tx10l (fun w1 hw => ssum_w l2 a2 n2 c2 w1 (SlB.later hw rfl hu2) hby2 hcn2 (TabK.later hw (by simp) hK) (by omega)) ?_
      refine L_wv rfl rfl rfl rfl rfl rfl (V_eqD rfl rfl rfl egD Tryd.underlying26 Tryd.underlying5 sz5l (by first | exact shaP_len _ | rfl) (by first | exact shaP_len _ | rfl) (decide_eq_true rfl)) ?_
      first | refine L_v rfl rfl rfl (V_pickT rfl rfl rfl) ?_ | refine L_v rfl rfl rfl (V_pickF rfl rfl rfl) ?_
      refine L_v rfl rfl rfl (V_assign rfl rfl) ?_
      refine L_nil ?_
      change J _ _ _ _
      refine J_ret ?_
      change Kret _ _ _ Exit.ret _
      refine ret1 rfl rfl (RV_t rfl) ?_
      exact fun w' h => ⟨rfl, h.fr⟩

theorem ShaTwo_w (u : Value) (l : List Int) (u2 : Value) (l2 : List Int) (w : World) (hv : SlB w u l) (hv2 : SlB w u2 l2) (hby : Byt l) (hby2 : Byt l2) (hq : ∀ a n c, u = .slice a n c → n ≤ c) (hq2 : ∀ a n c, u2 = .slice a n c → n ≤ c) (hK : TabK KT 1 w)  :
    Calls Tryd.prog 5 #[u, u2] w fun e w' => e = .returned (.bool true) ∧ Fr [] w w' := by
  obtain ⟨a, c, rfl⟩ := hv.form
  obtain ⟨a2, c2, rfl⟩ := hv2.form
  exact ShaTwo_in a _ c l a2 _ c2 l2 w hv hv2 hby hby2 (hq _ _ _ rfl) (hq2 _ _ _ rfl) hK
end Go.Proofs.YtejhcdjfcopphaaDoor
