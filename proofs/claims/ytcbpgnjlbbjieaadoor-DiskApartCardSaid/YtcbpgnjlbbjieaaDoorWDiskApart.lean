/- The law DiskApart: its walk. -/
import Derived.Test.YtcbpgnjlbbjieaaDoorD5
set_option linter.unusedVariables false
set_option linter.unusedSimpArgs false
set_option maxRecDepth 100000
namespace Go.Proofs.YtcbpgnjlbbjieaaDoor
open Go.Sx
/-! ### A name that is renamed -/
def rn1 : Dk := ⟨4194304, [([], 0)], [], [(e0, sA, 0)], false, false, 0⟩
def rn2 (x : List Int) : Dk := ⟨4194304, [(x, 0)], [], [(e0, sA, 0)], false, false, 0⟩
def rn3 (x : List Int) : Dk := ⟨4194304, [(x, x.length)], [], [(e0, sA, 0)], false, false, 0⟩
def rn4 (x : List Int) : Dk := ⟨4194304, [(x, x.length)], [(sA, 0)], [], false, false, 0⟩
def rn5 (x : List Int) : Dk := ⟨4194304, [(x, x.length), ([], 0)], [(sA, 0)], [(e0, sN, 1)], false, false, 0⟩
def rn6 (x y : List Int) : Dk := ⟨4194304, [(x, x.length), (y, 0)], [(sA, 0)], [(e0, sN, 1)], false, false, 0⟩
def rn7 (x y : List Int) : Dk := ⟨4194304, [(x, x.length), (y, y.length)], [(sA, 0)], [(e0, sN, 1)], false, false, 0⟩
def rn8 (x y : List Int) : Dk := ⟨4194304, [(x, x.length), (y, y.length)], [(sA, 0)], [(e0, sN, 1), (sN, sA, 1)], false, false, 0⟩
theorem rE1 : createE (newD 4194304) sA = 0 := by kernel_rfl
theorem rD1 : createD (newD 4194304) sA = rn1 := by kernel_rfl
theorem rE2 {x : List Int} (h : x.length ≤ 100000) : appendE rn1 sA x = 0 := appendE_3 (i := 0) rfl (by kernel_rfl) (by show ¬ (4194304 : Int) - ((0 : Nat) : Int) < (x.length : Int); omega)
theorem rD2 {x : List Int} (h : x.length ≤ 100000) : appendD rn1 sA x = rn2 x := by
  rw [appendD_0 (rE2 h) (i := 0) (by kernel_rfl)]
  rfl
theorem rE3 (x : List Int) : nameE (rn2 x) sA = 0 := by kernel_rfl
theorem rD3 (x : List Int) : syncD (rn2 x) sA = rn3 x := by kernel_rfl
theorem rE4 (x : List Int) : namesE (rn3 x) = 0 := by kernel_rfl
theorem rD4 (x : List Int) : namesD (rn3 x) = rn4 x := by kernel_rfl
theorem rE5 (x : List Int) : createE (rn4 x) sN = 0 := by kernel_rfl
theorem rD5 (x : List Int) : createD (rn4 x) sN = rn5 x := by kernel_rfl
theorem rE6 {x y : List Int} (h : x.length ≤ 100000) (k : y.length ≤ 100000) : appendE (rn5 x) sN y = 0 := appendE_3 (i := 1) rfl (by kernel_rfl) (by show ¬ (4194304 : Int) - ((x.length + (0 + 0) : Nat) : Int) < (y.length : Int); omega)
theorem rD6 {x y : List Int} (h : x.length ≤ 100000) (k : y.length ≤ 100000) : appendD (rn5 x) sN y = rn6 x y := by
  rw [appendD_0 (rE6 h k) (i := 1) (by kernel_rfl)]
  rfl
theorem rE7 (x y : List Int) : nameE (rn6 x y) sN = 0 := by kernel_rfl
theorem rD7 (x y : List Int) : syncD (rn6 x y) sN = rn7 x y := by kernel_rfl
theorem rE8 (x y : List Int) : renameE (rn7 x y) sN sA = 0 := by kernel_rfl
theorem rD8 (x y : List Int) : renameD (rn7 x y) sN sA = rn8 x y := by kernel_rfl
theorem wr1 : WfD rn1 1 := rD1 ▸ (WfD.new (room := 4194304) (by decide)).create sA
theorem wr2 {x : List Int} (h : x.length ≤ 100000) : WfD (rn2 x) 1 := rD2 h ▸ wr1.append sA x
theorem wr3 {x : List Int} (h : x.length ≤ 100000) : WfD (rn3 x) 1 := rD3 x ▸ (wr2 h).sync sA
theorem wr4 {x : List Int} (h : x.length ≤ 100000) : WfD (rn4 x) 1 := rD4 x ▸ (wr3 h).names
theorem wr5 {x : List Int} (h : x.length ≤ 100000) : WfD (rn5 x) 2 := rD5 x ▸ (wr4 h).create sN
theorem wr6 {x y : List Int} (h : x.length ≤ 100000) (k : y.length ≤ 100000) : WfD (rn6 x y) 2 := rD6 h k ▸ (wr5 h).append sN y
theorem wr7 {x y : List Int} (h : x.length ≤ 100000) (k : y.length ≤ 100000) : WfD (rn7 x y) 2 := rD7 x y ▸ (wr6 h k).sync sN
theorem wr8 {x y : List Int} (h : x.length ≤ 100000) (k : y.length ≤ 100000) : WfD (rn8 x y) 3 := rD8 x y ▸ (wr7 h k).rename sN sA
theorem left_all (x : List Int) (tl : List Int) (i : Nat) (z : Int) : leftB (x, x.length) (tailK (x, x.length) tl i) z = x := by
  have h : tailK (x, x.length) tl i = 0 := by
    unfold tailK
    split
    · show (min (max (tl.getD i 0) 0) ((x.length - x.length : Nat) : Int)).toNat = 0
      omega
    · rfl
  rw [leftB_0 _ _ h, h]
  exact List.take_length
theorem crashS_k {D : Dk} {n : Int} (j : Nat) (h : (min (max n 0) D.ch.length).toNat = j) : crashS D n = (D.ch.take j).foldl doN D.sf := by
  unfold crashS
  rw [h]
/-- What a name says behind a crash. -/
theorem crash_read {D : Dk} {n : Int} {tl : List Int} {z : Int} {S : List Nm} (hS : crashS D n = S) {f : ByteArray} {i : Nat} (hi : i < S.length) (hg : getN (S.zipIdx.map fun p => ((p.1.1, p.2) : Nm)) f = some i) : readE (crashD D n tl z) f = 0 ∧ readB (crashD D n tl z) f = (crashB D tl z S i).1 := by
  have h1 : (crashD D n tl z).find f = some i := by
    show getN ((crashS D n).zipIdx.map fun p => (p.1.1, p.2)) f = some i
    rw [hS]
    exact hg
  refine ⟨readE_0 h1, ?_⟩
  rw [readB_0 h1]
  show (((List.range (crashS D n).length).map (crashB D tl z (crashS D n))).getD i bo0).1 = _
  rw [hS, List.getD_eq_getElem?_getD, List.getElem?_map, List.getElem?_range hi]
  rfl
theorem crash_len {D : Dk} {n : Int} {tl : List Int} {z : Int} : (crashD D n tl z).all.length = (crashS D n).length := by
  show (List.map _ _).length = _
  rw [List.length_map, List.length_zipIdx]
theorem rn_lt (x y tl : List Int) (z : Int) {n : Int} (h : n < 2) : readE (crashD (rn8 x y) n tl z) sA = 0 ∧ readB (crashD (rn8 x y) n tl z) sA = x := by
  have h2 : (min (max n 0) ((rn8 x y).ch.length : Int)).toNat = 0 ∨ (min (max n 0) ((rn8 x y).ch.length : Int)).toNat = 1 := by
    show (min (max n 0) ((2 : Nat) : Int)).toNat = 0 ∨ (min (max n 0) ((2 : Nat) : Int)).toNat = 1
    omega
  rcases h2 with h2 | h2
  · have := crash_read (tl := tl) (z := z) (S := [(sA, 0)]) (f := sA) (i := 0) (crashS_k 0 h2) (by decide) (by kernel_rfl)
    exact ⟨this.1, this.2.trans (left_all x tl 0 z)⟩
  · have := crash_read (tl := tl) (z := z) (S := [(sA, 0), (sN, 1)]) (f := sA) (i := 0) ((crashS_k 1 h2).trans (by kernel_rfl)) (by decide) (by kernel_rfl)
    exact ⟨this.1, this.2.trans (left_all x tl 0 z)⟩
theorem rn_ge (x y tl : List Int) (z : Int) {n : Int} (h : ¬ n < 2) : readE (crashD (rn8 x y) n tl z) sA = 0 ∧ readB (crashD (rn8 x y) n tl z) sA = y ∧ (crashD (rn8 x y) n tl z).all.length = 1 := by
  have h2 : (min (max n 0) ((rn8 x y).ch.length : Int)).toNat = 2 := by
    show (min (max n 0) ((2 : Nat) : Int)).toNat = 2
    omega
  have h3 : crashS (rn8 x y) n = [(sA, 1)] := (crashS_k 2 h2).trans (by kernel_rfl)
  have := crash_read (tl := tl) (z := z) (S := [(sA, 1)]) (f := sA) (i := 0) h3 (by decide) (by kernel_rfl)
  refine ⟨this.1, this.2.trans (left_all y tl 0 z), ?_⟩
  rw [crash_len, h3]
  rfl
theorem rn_E (x y tl : List Int) (z n : Int) : readE (crashD (rn8 x y) n tl z) sA = 0 := by
  by_cases h : n < 2
  · exact (rn_lt x y tl z h).1
  · exact (rn_ge x y tl z h).1
/-! ### Two files -/
def ap2 : Dk := ⟨4194304, [([], 0), ([], 0)], [], [(e0, sA, 0), (e0, sB, 1)], false, false, 0⟩
def ap3 (x : List Int) : Dk := ⟨4194304, [(x, 0), ([], 0)], [], [(e0, sA, 0), (e0, sB, 1)], false, false, 0⟩
def ap4 (x : List Int) : Dk := ⟨4194304, [(x, x.length), ([], 0)], [], [(e0, sA, 0), (e0, sB, 1)], false, false, 0⟩
def ap5 (x : List Int) : Dk := ⟨4194304, [(x, x.length), ([], 0)], [(sA, 0), (sB, 1)], [], false, false, 0⟩
def ap6 (x y : List Int) : Dk := ⟨4194304, [(x, x.length), (y, 0)], [(sA, 0), (sB, 1)], [], false, false, 0⟩
theorem pE2 : createE rn1 sB = 0 := by kernel_rfl
theorem pD2 : createD rn1 sB = ap2 := by kernel_rfl
theorem pE3 {x : List Int} (h : x.length ≤ 100000) : appendE ap2 sA x = 0 := appendE_3 (i := 0) rfl (by kernel_rfl) (by show ¬ (4194304 : Int) - ((0 : Nat) : Int) < (x.length : Int); omega)
theorem pD3 {x : List Int} (h : x.length ≤ 100000) : appendD ap2 sA x = ap3 x := by
  rw [appendD_0 (pE3 h) (i := 0) (by kernel_rfl)]
  rfl
theorem pE4 (x : List Int) : nameE (ap3 x) sA = 0 := by kernel_rfl
theorem pD4 (x : List Int) : syncD (ap3 x) sA = ap4 x := by kernel_rfl
theorem pE5 (x : List Int) : namesE (ap4 x) = 0 := by kernel_rfl
theorem pD5 (x : List Int) : namesD (ap4 x) = ap5 x := by kernel_rfl
theorem pE6 {x y : List Int} (h : x.length ≤ 100000) (k : y.length ≤ 100000) : appendE (ap5 x) sB y = 0 := appendE_3 (i := 1) rfl (by kernel_rfl) (by show ¬ (4194304 : Int) - ((x.length + (0 + 0) : Nat) : Int) < (y.length : Int); omega)
theorem pD6 {x y : List Int} (h : x.length ≤ 100000) (k : y.length ≤ 100000) : appendD (ap5 x) sB y = ap6 x y := by
  rw [appendD_0 (pE6 h k) (i := 1) (by kernel_rfl)]
  rfl
theorem wp2 : WfD ap2 2 := pD2 ▸ wr1.create sB
theorem wp3 {x : List Int} (h : x.length ≤ 100000) : WfD (ap3 x) 2 := pD3 h ▸ wp2.append sA x
theorem wp4 {x : List Int} (h : x.length ≤ 100000) : WfD (ap4 x) 2 := pD4 x ▸ (wp3 h).sync sA
theorem wp5 {x : List Int} (h : x.length ≤ 100000) : WfD (ap5 x) 2 := pD5 x ▸ (wp4 h).names
theorem wp6 {x y : List Int} (h : x.length ≤ 100000) (k : y.length ≤ 100000) : WfD (ap6 x y) 2 := pD6 h k ▸ (wp5 h).append sB y
theorem ap_S (x y : List Int) : crashS (ap6 x y) 0 = [(sA, 0), (sB, 1)] := by kernel_rfl
theorem ap_A (x y tl : List Int) (z : Int) : readE (crashD (ap6 x y) 0 tl z) sA = 0 ∧ readB (crashD (ap6 x y) 0 tl z) sA = x := by
  have := crash_read (tl := tl) (z := z) (f := sA) (i := 0) (ap_S x y) (by decide) (by kernel_rfl)
  exact ⟨this.1, this.2.trans (left_all x tl 0 z)⟩
theorem ap_B (x y tl : List Int) (z : Int) : readE (crashD (ap6 x y) 0 tl z) sB = 0 ∧ (readB (crashD (ap6 x y) 0 tl z) sB).length ≤ y.length := by
  have := crash_read (tl := tl) (z := z) (f := sB) (i := 1) (ap_S x y) (by decide) (by kernel_rfl)
  refine ⟨this.1, ?_⟩
  rw [this.2]
  have h1 := tailK_le (y, 0) tl 1 (Nat.zero_le _)
  show (leftB (y, 0) (tailK (y, 0) tl 1) z).length ≤ _
  rw [leftB_len _ _ _ h1]
  exact h1
theorem ap_R (x y tl : List Int) (z : Int) : nameE (crashD (ap6 x y) 0 tl z) sB = 0 ∧ (removeD (crashD (ap6 x y) 0 tl z) sB).all.length = 1 := by
  have h1 : (crashD (ap6 x y) 0 tl z).all = [(sA, 0), (sB, 1)] := by
    show ((crashS (ap6 x y) 0).zipIdx.map fun p => ((p.1.1, p.2) : Nm)) = _
    rw [ap_S]
    rfl
  have h2 : (crashD (ap6 x y) 0 tl z).find sB = some 1 := by
    unfold Dk.find
    rw [h1]
    kernel_rfl
  have h3 : nameE (crashD (ap6 x y) 0 tl z) sB = 0 := nameE_3 rfl h2
  refine ⟨h3, ?_⟩
  rw [removeD_0 h3, chg_all, h1]
  kernel_rfl
theorem tx9wApa : Txt Tryd.prog 9 := txt_of Tryd.func9 rfl (by kernel_rfl)
theorem tx10wApa : Txt Tryd.prog 10 := txt_of Tryd.func10 rfl (by kernel_rfl)
theorem tx11wApa : Txt Tryd.prog 11 := txt_of Tryd.func11 rfl (by kernel_rfl)
theorem tx12wApa : Txt Tryd.prog 12 := txt_of Tryd.func12 rfl (by kernel_rfl)
theorem tx13wApa : Txt Tryd.prog 13 := txt_of Tryd.func13 rfl (by kernel_rfl)
theorem tx15wApa : Txt Tryd.prog 15 := txt_of Tryd.func15 rfl (by kernel_rfl)
theorem tx16wApa : Txt Tryd.prog 16 := txt_of Tryd.func16 rfl (by kernel_rfl)
theorem tx17wApa : Txt Tryd.prog 17 := txt_of Tryd.func17 rfl (by kernel_rfl)
theorem tx18wApa : Txt Tryd.prog 18 := txt_of Tryd.func18 rfl (by kernel_rfl)
theorem tx19wApa : Txt Tryd.prog 19 := txt_of Tryd.func19 rfl (by kernel_rfl)

set_option maxHeartbeats 4000000 in
theorem DiskApart_w (a0 : Option Addr) (c0 : Nat) (x0 : List Int) (a1 : Option Addr) (c1 : Nat) (x1 : List Int) (a2 : Option Addr) (c2 : Nat) (x2 : List Int) (z : Int) (w : World) (hF : FW w [factB (.slice a0 x0.length c0) x0, factB (.slice a1 x1.length c1) x1, factC 1 (.slice a2 x2.length c2) x2.length (intV x2)]) :
    Calls Tryd.prog 4 #[.slice a0 x0.length c0, .slice a1 x1.length c1, .slice a2 x2.length c2, .int .u8 z] w fun e w' => e = .returned (.bool true) ∧ Fr [] w w' := by
  refine calls_of (args := [.slice a0 x0.length c0, .slice a1 x1.length c1, .slice a2 x2.length c2, .int .u8 z]) ([]) ([]) ([factB (.slice a0 x0.length c0) x0, factB (.slice a1 x1.length c1) x1, factC 1 (.slice a2 x2.length c2) x2.length (intV x2)]) Tryd.func4 rfl rfl (okFW hF) ?_
  refine J_seq ?_
  refine J_region ?_
  refine L_v rfl rfl rfl (V_assign rfl rfl) ?_
  refine L_nil ?_
  change J _ _ _ _
  refine J_seq ?_
  refine J_seq ?_
  refine J_region ?_
  refine L_v rfl rfl rfl (V_move rfl rfl) ?_
  refine L_v rfl rfl rfl (V_len rfl rfl Tryd.underlying22 rfl) ?_
  refine L_v rfl rfl rfl (V_gtr rfl rfl rfl rfl) ?_
  refine L_v rfl rfl rfl (V_move rfl rfl) ?_
  apply L_or 3 26 30
  · rfl
  · rfl
  · rfl
  · rfl
  · rfl
  · rfl
  · rfl
  · kernel_rfl
  · intro hb1 _ _ hk1
    refine L_wv rfl rfl rfl rfl rfl rfl (V_move rfl rfl) ?_
    refine L_wv rfl rfl rfl rfl rfl rfl (V_len rfl rfl Tryd.underlying22 rfl) ?_
    refine L_wv rfl rfl rfl rfl rfl rfl (V_gtr rfl rfl rfl rfl) ?_
    exact hk1 _ ⟨rfl, (by first | simp only [St.put] | rfl), (by first | simp only [St.put] | rfl), (by first | simp only [St.put] | rfl), ext_cut 3 (by kernel_rfl) (by kernel_rfl)⟩
  refine L_v rfl rfl rfl (V_move rfl rfl) ?_
  apply L_or 3 31 35
  · rfl
  · rfl
  · rfl
  · rfl
  · rfl
  · rfl
  · rfl
  · kernel_rfl
  · intro hb2 _ _ hk2
    refine L_wv rfl rfl rfl rfl rfl rfl (V_move rfl rfl) ?_
    refine L_wv rfl rfl rfl rfl rfl rfl (V_len rfl rfl Tryd.underlying23 rfl) ?_
    refine L_wv rfl rfl rfl rfl rfl rfl (V_gtr rfl rfl rfl rfl) ?_
    exact hk2 _ ⟨rfl, (by first | simp only [St.put] | rfl), (by first | simp only [St.put] | rfl), (by first | simp only [St.put] | rfl), ext_cut 3 (by kernel_rfl) (by kernel_rfl)⟩
  refine L_nil ?_
  change J _ _ _ _
  refine J_cond rfl (fun h3 => ?_) (fun h3 => ?_)
  ·
    first | (have h3 := of_decide_eq_true h3) | (have h3 := of_decide_eq_false h3) | skip
    refine J_seq ?_
    refine J_region ?_
    refine L_v rfl rfl rfl (V_assign rfl rfl) ?_
    refine L_nil ?_
    change J _ _ _ _
    refine J_ret ?_
    change Kret _ _ _ Exit.ret _
    refine ret1 rfl rfl (RV_t rfl) ?_
    exact fun w' h => ⟨rfl, h.fr⟩
  ·
    first | (have h3 := of_decide_eq_true h3) | (have h3 := of_decide_eq_false h3) | skip
    rw [Bool.or_eq_false_iff, Bool.or_eq_false_iff, decide_eq_false_iff_not, decide_eq_false_iff_not, decide_eq_false_iff_not] at h3
    obtain ⟨⟨hx0, hx1⟩, hx2⟩ := h3
    have hx0 : x0.length ≤ 100000 := by omega
    have hx1 : x1.length ≤ 100000 := by omega
    refine J_skip ?_
    change J _ _ _ _
    refine J_seq ?_
    refine J_region ?_
    refine L_call rfl rfl rfl rfl tx9wApa (fun w1 hw => (new_w 4194304 w1).mono ?_)
    rintro e w' (⟨h9, _⟩ | ⟨_, bd, H0, rfl, hG0, hU0⟩)
    · exact absurd (by decide) h9
    have hG0 : Good (newD 4194304) H0 := hG0
    have hU0 : Upd _ _ _ (dkM bd (newD 4194304) H0) [] := hU0
    refine ⟨_, _, _, rfl, OkW.upd (m1 := []) hw hU0, rfl, ?_⟩
    refine L_mem (dkM bd (newD 4194304) H0) rfl ?_
    refine L_v rfl rfl rfl (V_move rfl rfl) ?_
    refine L_v rfl rfl rfl (V_extract rfl rfl rfl) ?_
    refine L_v rfl rfl rfl (V_extract rfl rfl rfl) ?_
    refine L_v rfl rfl rfl (V_assign rfl rfl) ?_
    refine L_v rfl rfl rfl (V_assign rfl rfl) ?_
    refine L_nil ?_
    change J _ _ _ _
    refine J_seq ?_
    refine J_seq ?_
    refine J_region ?_
    refine L_v rfl rfl rfl (V_move rfl rfl) ?_
    refine L_v rfl rfl rfl (V_eqP rfl rfl rfl Tryd.underlying24 rfl) ?_
    refine L_v rfl rfl rfl (V_move rfl rfl) ?_
    apply L_or 2 42 45
    · rfl
    · rfl
    · rfl
    · rfl
    · rfl
    · rfl
    · rfl
    · kernel_rfl
    · intro hb4 _ _ hk4
      refine L_wv rfl rfl rfl rfl rfl rfl (V_move rfl rfl) ?_
      refine L_wv rfl rfl rfl rfl rfl rfl (V_neq rfl rfl rfl rfl) ?_
      exact hk4 _ ⟨rfl, (by first | simp only [St.put] | rfl), (by first | simp only [St.put] | rfl), (by first | simp only [St.put] | rfl), ext_cut 2 (by kernel_rfl) (by kernel_rfl)⟩
    refine L_nil ?_
    change J _ _ _ _
    refine J_false rfl ?_
    refine J_skip ?_
    change J _ _ _ _
    refine J_seq ?_
    refine J_region ?_
    refine L_v rfl rfl rfl (V_move rfl rfl) ?_
    refine L_call rfl rfl rfl rfl tx10wApa (fun w1 hw => (create_w bd (newD 4194304) H0 sA w1 (hw.memAt (List.Sublist.refl _)) hG0 (WfD.new (by decide)) (by decide)).mono ?_)
    rintro e w' ⟨H1, rfl, hG1, hU1⟩
    have hG1 : Good rn1 H1 := (by have h9 := hG1; rw [rD1] at h9; exact h9)
    have hU1 : Upd _ _ _ (dkM bd rn1 H1) [] := (by have h9 := hU1; rw [rD1] at h9; exact h9)
    refine ⟨.int .i64 (0), _, _, (by rw [rE1]), OkW.upd (m1 := []) hw hU1, rfl, ?_⟩
    refine L_mem (dkM bd rn1 H1) rfl ?_
    refine L_v rfl rfl rfl (V_assign rfl rfl) ?_
    refine L_nil ?_
    change J _ _ _ _
    refine J_seq ?_
    refine J_region ?_
    refine L_v rfl rfl rfl (V_move rfl rfl) ?_
    refine L_call rfl rfl rfl rfl tx10wApa (fun w1 hw => (create_w bd rn1 H1 sB w1 (hw.memAt (List.Sublist.refl _)) hG1 wr1 (by decide)).mono ?_)
    rintro e w' ⟨H2, rfl, hG2, hU2⟩
    have hG2 : Good ap2 H2 := (by have h9 := hG2; rw [pD2] at h9; exact h9)
    have hU2 : Upd _ _ _ (dkM bd ap2 H2) [] := (by have h9 := hU2; rw [pD2] at h9; exact h9)
    refine ⟨.int .i64 (0), _, _, (by rw [pE2]), OkW.upd (m1 := []) hw hU2, rfl, ?_⟩
    refine L_mem (dkM bd ap2 H2) rfl ?_
    refine L_v rfl rfl rfl (V_assign rfl rfl) ?_
    refine L_nil ?_
    change J _ _ _ _
    refine J_seq ?_
    refine J_region ?_
    refine L_v rfl rfl rfl (V_move rfl rfl) ?_
    refine L_v rfl rfl rfl (V_move rfl rfl) ?_
    refine L_call rfl rfl rfl rfl tx11wApa (fun w1 hw => (append_w bd ap2 H2 sA a0 c0 x0 w1 (hw.memAt (List.Sublist.refl _)) hG2 wp2 (by decide) (fun f hf => by obtain rfl := List.mem_singleton.1 hf; exact hw.facts _ (List.mem_of_getElem? (i := 0) rfl))).mono ?_)
    rintro e w' ⟨H3, rfl, hG3, hU3⟩
    have hG3 : Good (ap3 x0) H3 := (by have h9 := hG3; rw [pD3 hx0] at h9; exact h9)
    have hU3 : Upd _ _ _ (dkM bd (ap3 x0) H3) [] := (by have h9 := hU3; rw [pD3 hx0] at h9; exact h9)
    refine ⟨.int .i64 (0), _, _, (by rw [pE3 hx0]), OkW.upd (m1 := []) hw hU3, rfl, ?_⟩
    refine L_mem (dkM bd (ap3 x0) H3) rfl ?_
    refine L_v rfl rfl rfl (V_assign rfl rfl) ?_
    refine L_nil ?_
    change J _ _ _ _
    refine J_seq ?_
    refine J_region ?_
    refine L_v rfl rfl rfl (V_move rfl rfl) ?_
    refine L_call rfl rfl rfl rfl tx12wApa (fun w1 hw => (sync_w bd (ap3 x0) H3 sA w1 (hw.memAt (List.Sublist.refl _)) hG3 (wp3 hx0) (by decide)).mono ?_)
    rintro e w' ⟨H4, rfl, hG4, hU4⟩
    have hG4 : Good (ap4 x0) H4 := (by have h9 := hG4; rw [pD4] at h9; exact h9)
    have hU4 : Upd _ _ _ (dkM bd (ap4 x0) H4) [] := (by have h9 := hU4; rw [pD4] at h9; exact h9)
    refine ⟨.int .i64 (0), _, _, (by rw [pE4]), OkW.upd (m1 := []) hw hU4, rfl, ?_⟩
    refine L_mem (dkM bd (ap4 x0) H4) rfl ?_
    refine L_v rfl rfl rfl (V_assign rfl rfl) ?_
    refine L_nil ?_
    change J _ _ _ _
    refine J_seq ?_
    refine J_region ?_
    refine L_v rfl rfl rfl (V_move rfl rfl) ?_
    refine L_call rfl rfl rfl rfl tx13wApa (fun w1 hw => (syncNames_w bd (ap4 x0) H4  w1 (hw.memAt (List.Sublist.refl _)) hG4 (wp4 hx0) (by decide)).mono ?_)
    rintro e w' ⟨H5, rfl, hG5, hU5⟩
    have hG5 : Good (ap5 x0) H5 := (by have h9 := hG5; rw [pD5] at h9; exact h9)
    have hU5 : Upd _ _ _ (dkM bd (ap5 x0) H5) [] := (by have h9 := hU5; rw [pD5] at h9; exact h9)
    refine ⟨.int .i64 (0), _, _, (by rw [pE5]), OkW.upd (m1 := []) hw hU5, rfl, ?_⟩
    refine L_mem (dkM bd (ap5 x0) H5) rfl ?_
    refine L_v rfl rfl rfl (V_assign rfl rfl) ?_
    refine L_nil ?_
    change J _ _ _ _
    refine J_seq ?_
    refine J_region ?_
    refine L_v rfl rfl rfl (V_move rfl rfl) ?_
    refine L_v rfl rfl rfl (V_move rfl rfl) ?_
    refine L_call rfl rfl rfl rfl tx11wApa (fun w1 hw => (append_w bd (ap5 x0) H5 sB a1 c1 x1 w1 (hw.memAt (List.Sublist.refl _)) hG5 (wp5 hx0) (by decide) (fun f hf => by obtain rfl := List.mem_singleton.1 hf; exact hw.facts _ (List.mem_of_getElem? (i := 1) rfl))).mono ?_)
    rintro e w' ⟨H6, rfl, hG6, hU6⟩
    have hG6 : Good (ap6 x0 x1) H6 := (by have h9 := hG6; rw [pD6 hx0 hx1] at h9; exact h9)
    have hU6 : Upd _ _ _ (dkM bd (ap6 x0 x1) H6) [] := (by have h9 := hU6; rw [pD6 hx0 hx1] at h9; exact h9)
    refine ⟨.int .i64 (0), _, _, (by rw [pE6 hx0 hx1]), OkW.upd (m1 := []) hw hU6, rfl, ?_⟩
    refine L_mem (dkM bd (ap6 x0 x1) H6) rfl ?_
    refine L_v rfl rfl rfl (V_assign rfl rfl) ?_
    refine L_nil ?_
    change J _ _ _ _
    refine J_seq ?_
    refine J_region ?_
    refine L_v rfl rfl rfl (V_move rfl rfl) ?_
    refine L_call rfl rfl rfl rfl tx16wApa (fun w1 hw => (read_f bd (ap6 x0 x1) H6 sA w1 (hw.memAt (List.Sublist.refl _)) hG6 (wp6 hx0 hx1)).mono ?_)
    rintro e w' ⟨a62, c62, rfl, hfr, hn⟩
    refine ⟨_, _, _, rfl, hw.newN hfr hn, rfl, ?_⟩
    refine L_v rfl rfl rfl (V_move rfl rfl) ?_
    refine L_v rfl rfl rfl (V_extract rfl rfl rfl) ?_
    refine L_v rfl rfl rfl (V_extract rfl rfl rfl) ?_
    refine L_v rfl rfl rfl (V_assign rfl rfl) ?_
    refine L_v rfl rfl rfl (V_assign rfl rfl) ?_
    refine L_nil ?_
    change J _ _ _ _
    refine J_seq ?_
    refine J_seq ?_
    refine J_region ?_
    refine L_v rfl rfl rfl (V_move rfl rfl) ?_
    refine L_v rfl rfl rfl (V_neq rfl rfl rfl rfl) ?_
    refine L_v rfl rfl rfl (V_move rfl rfl) ?_
    apply L_or 2 67 70
    · rfl
    · rfl
    · rfl
    · rfl
    · rfl
    · rfl
    · rfl
    · kernel_rfl
    · intro hb5 _ _ hk5
      refine L_wv rfl rfl rfl rfl rfl rfl (V_move rfl rfl) ?_
      refine L_wv rfl rfl rfl rfl rfl rfl (V_neq rfl rfl rfl rfl) ?_
      exact hk5 _ ⟨rfl, (by first | simp only [St.put] | rfl), (by first | simp only [St.put] | rfl), (by first | simp only [St.put] | rfl), ext_cut 2 (by kernel_rfl) (by kernel_rfl)⟩
    refine L_v rfl rfl rfl (V_move rfl rfl) ?_
    apply L_or 2 71 74
    · rfl
    · rfl
    · rfl
    · rfl
    · rfl
    · rfl
    · rfl
    · kernel_rfl
    · intro hb6 _ _ hk6
      refine L_wv rfl rfl rfl rfl rfl rfl (V_move rfl rfl) ?_
      refine L_wv rfl rfl rfl rfl rfl rfl (V_neq rfl rfl rfl rfl) ?_
      exact hk6 _ ⟨rfl, (by first | simp only [St.put] | rfl), (by first | simp only [St.put] | rfl), (by first | simp only [St.put] | rfl), ext_cut 2 (by kernel_rfl) (by kernel_rfl)⟩
    refine L_v rfl rfl rfl (V_move rfl rfl) ?_
    apply L_or 2 75 78
    · rfl
    · rfl
    · rfl
    · rfl
    · rfl
    · rfl
    · rfl
    · kernel_rfl
    · intro hb7 _ _ hk7
      refine L_wv rfl rfl rfl rfl rfl rfl (V_move rfl rfl) ?_
      refine L_wv rfl rfl rfl rfl rfl rfl (V_neq rfl rfl rfl rfl) ?_
      exact hk7 _ ⟨rfl, (by first | simp only [St.put] | rfl), (by first | simp only [St.put] | rfl), (by first | simp only [St.put] | rfl), ext_cut 2 (by kernel_rfl) (by kernel_rfl)⟩
    refine L_v rfl rfl rfl (V_move rfl rfl) ?_
    apply L_or 2 79 82
    · rfl
    · rfl
    · rfl
    · rfl
    · rfl
    · rfl
    · rfl
    · kernel_rfl
    · intro hb8 _ _ hk8
      refine L_wv rfl rfl rfl rfl rfl rfl (V_move rfl rfl) ?_
      refine L_wv rfl rfl rfl rfl rfl rfl (V_neq rfl rfl rfl rfl) ?_
      exact hk8 _ ⟨rfl, (by first | simp only [St.put] | rfl), (by first | simp only [St.put] | rfl), (by first | simp only [St.put] | rfl), ext_cut 2 (by kernel_rfl) (by kernel_rfl)⟩
    refine L_v rfl rfl rfl (V_move rfl rfl) ?_
    apply L_or 2 83 86
    · rfl
    · rfl
    · rfl
    · rfl
    · rfl
    · rfl
    · rfl
    · kernel_rfl
    · intro hb9 _ _ hk9
      refine L_wv rfl rfl rfl rfl rfl rfl (V_move rfl rfl) ?_
      refine L_wv rfl rfl rfl rfl rfl rfl (V_neq rfl rfl rfl rfl) ?_
      exact hk9 _ ⟨rfl, (by first | simp only [St.put] | rfl), (by first | simp only [St.put] | rfl), (by first | simp only [St.put] | rfl), ext_cut 2 (by kernel_rfl) (by kernel_rfl)⟩
    refine L_v rfl rfl rfl (V_move rfl rfl) ?_
    apply L_or 2 87 90
    · rfl
    · rfl
    · rfl
    · rfl
    · rfl
    · rfl
    · rfl
    · kernel_rfl
    · intro hb10 _ _ hk10
      refine L_wv rfl rfl rfl rfl rfl rfl (V_move rfl rfl) ?_
      refine L_wv rfl rfl rfl rfl rfl rfl (V_neq rfl rfl rfl rfl) ?_
      exact hk10 _ ⟨rfl, (by first | simp only [St.put] | rfl), (by first | simp only [St.put] | rfl), (by first | simp only [St.put] | rfl), ext_cut 2 (by kernel_rfl) (by kernel_rfl)⟩
    refine L_v rfl rfl rfl (V_move rfl rfl) ?_
    refine L_wv rfl rfl rfl rfl rfl rfl (V_move rfl rfl) ?_
    refine L_wv rfl rfl rfl rfl rfl rfl (V_str rfl rfl Tryd.underlying22 Tryd.underlying5 Tryd.underlying9 (fun w hw => (hw.facts _ (List.mem_of_getElem? (i := 3) rfl)).1)) ?_
    refine L_wv rfl rfl rfl rfl rfl rfl (V_move rfl rfl) ?_
    refine L_wv rfl rfl rfl rfl rfl rfl (V_str rfl rfl Tryd.underlying22 Tryd.underlying5 Tryd.underlying9 (fun w hw => (hw.facts _ (List.mem_of_getElem? (i := 0) rfl)).1)) ?_
    refine L_wv rfl rfl rfl rfl rfl rfl (V_neS rfl rfl rfl rfl) ?_
    refine L_same 96 rfl ((show Value.bool _ = Value.bool false from congrArg Value.bool (decide_eq_false (by rw [show readB (ap6 x0 x1) sA = x0 from rfl]; exact fun h => h rfl)))) ?_
    first | refine L_v rfl rfl rfl (V_pickT rfl rfl rfl) ?_ | refine L_v rfl rfl rfl (V_pickF rfl rfl rfl) ?_
    refine L_nil ?_
    change J _ _ _ _
    refine J_false rfl ?_
    refine J_skip ?_
    change J _ _ _ _
    refine J_seq ?_
    refine J_region ?_
    refine L_v rfl rfl rfl (V_move rfl rfl) ?_
    refine L_v rfl rfl rfl (V_move rfl rfl) ?_
    refine L_v rfl rfl rfl (V_move rfl rfl) ?_
    refine L_call rfl rfl rfl rfl tx15wApa (fun w1 hw => (crash_w bd (ap6 x0 x1) H6 0 a2 c2 x2 z w1 (hw.memAt (List.Sublist.refl _)) hG6 (wp6 hx0 hx1) (by decide) (fun f hf => by obtain rfl := List.mem_singleton.1 hf; exact hw.facts _ (List.mem_of_getElem? (i := 2) rfl))).mono ?_)
    rintro e w' ⟨H7, rfl, hG7, hU7⟩
    have hG7 : Good (crashD (ap6 x0 x1) 0 x2 z) H7 := hG7
    have hU7 : Upd _ _ _ (dkM bd (crashD (ap6 x0 x1) 0 x2 z) H7) [] := hU7
    refine ⟨_, _, _, rfl, OkW.upd (m1 := []) hw hU7, rfl, ?_⟩
    refine L_mem (dkM bd (crashD (ap6 x0 x1) 0 x2 z) H7) rfl ?_
    refine L_nil ?_
    change J _ _ _ _
    refine J_seq ?_
    refine J_region ?_
    refine L_v rfl rfl rfl (V_move rfl rfl) ?_
    refine L_call rfl rfl rfl rfl tx16wApa (fun w1 hw => (read_f bd (crashD (ap6 x0 x1) 0 x2 z) H7 sA w1 (hw.memAt (List.Sublist.refl _)) hG7 ((wp6 hx0 hx1).crash 0 x2 z)).mono ?_)
    rintro e w' ⟨a104, c104, rfl, hfr, hn⟩
    refine ⟨_, _, _, rfl, hw.newN hfr hn, rfl, ?_⟩
    refine L_v rfl rfl rfl (V_move rfl rfl) ?_
    refine L_v rfl rfl rfl (V_extract rfl rfl rfl) ?_
    refine L_v rfl rfl rfl (V_extract rfl rfl rfl) ?_
    refine L_v rfl rfl rfl (V_assign rfl rfl) ?_
    refine L_v rfl rfl rfl (V_assign rfl rfl) ?_
    refine L_nil ?_
    change J _ _ _ _
    refine J_seq ?_
    refine J_region ?_
    refine L_v rfl rfl rfl (V_move rfl rfl) ?_
    refine L_call rfl rfl rfl rfl tx16wApa (fun w1 hw => (read_f bd (crashD (ap6 x0 x1) 0 x2 z) H7 sB w1 (hw.memAt (List.Sublist.refl _)) hG7 ((wp6 hx0 hx1).crash 0 x2 z)).mono ?_)
    rintro e w' ⟨a109, c109, rfl, hfr, hn⟩
    refine ⟨_, _, _, rfl, hw.newN hfr hn, rfl, ?_⟩
    refine L_v rfl rfl rfl (V_move rfl rfl) ?_
    refine L_v rfl rfl rfl (V_extract rfl rfl rfl) ?_
    refine L_v rfl rfl rfl (V_extract rfl rfl rfl) ?_
    refine L_v rfl rfl rfl (V_assign rfl rfl) ?_
    refine L_v rfl rfl rfl (V_assign rfl rfl) ?_
    refine L_nil ?_
    change J _ _ _ _
    refine J_seq ?_
    refine J_region ?_
    refine L_callV rfl rfl rfl rfl rfl rfl tx17wApa (fun w1 hw => awake_w w1) ?_
    refine L_v rfl rfl rfl (V_move rfl rfl) ?_
    refine L_wv rfl rfl rfl rfl rfl rfl (V_move rfl rfl) ?_
    refine L_wv rfl rfl rfl rfl rfl rfl (V_eql rfl rfl rfl rfl) ?_
    refine L_same 115 rfl ((show Value.bool _ = Value.bool true from congrArg Value.bool (decide_eq_true ((ap_A x0 x1 x2 z).1)))) ?_
    first | refine L_v rfl rfl rfl (V_pickT rfl rfl rfl) ?_ | refine L_v rfl rfl rfl (V_pickF rfl rfl rfl) ?_
    refine L_v rfl rfl rfl (V_move rfl rfl) ?_
    refine L_wv rfl rfl rfl rfl rfl rfl (V_move rfl rfl) ?_
    refine L_wv rfl rfl rfl rfl rfl rfl (V_str rfl rfl Tryd.underlying22 Tryd.underlying5 Tryd.underlying9 (fun w hw => (hw.facts _ (List.mem_of_getElem? (i := 4) rfl)).1)) ?_
    refine L_wv rfl rfl rfl rfl rfl rfl (V_move rfl rfl) ?_
    refine L_wv rfl rfl rfl rfl rfl rfl (V_str rfl rfl Tryd.underlying22 Tryd.underlying5 Tryd.underlying9 (fun w hw => (hw.facts _ (List.mem_of_getElem? (i := 0) rfl)).1)) ?_
    refine L_wv rfl rfl rfl rfl rfl rfl (V_eqS rfl rfl rfl rfl) ?_
    refine L_same 122 rfl ((show Value.bool _ = Value.bool true from congrArg Value.bool (decide_eq_true (by rw [(ap_A x0 x1 x2 z).2])))) ?_
    first | refine L_v rfl rfl rfl (V_pickT rfl rfl rfl) ?_ | refine L_v rfl rfl rfl (V_pickF rfl rfl rfl) ?_
    refine L_v rfl rfl rfl (V_move rfl rfl) ?_
    refine L_wv rfl rfl rfl rfl rfl rfl (V_move rfl rfl) ?_
    refine L_wv rfl rfl rfl rfl rfl rfl (V_eql rfl rfl rfl rfl) ?_
    refine L_same 126 rfl ((show Value.bool _ = Value.bool true from congrArg Value.bool (decide_eq_true ((ap_B x0 x1 x2 z).1)))) ?_
    first | refine L_v rfl rfl rfl (V_pickT rfl rfl rfl) ?_ | refine L_v rfl rfl rfl (V_pickF rfl rfl rfl) ?_
    refine L_v rfl rfl rfl (V_move rfl rfl) ?_
    refine L_wv rfl rfl rfl rfl rfl rfl (V_move rfl rfl) ?_
    refine L_wv rfl rfl rfl rfl rfl rfl (V_len rfl rfl Tryd.underlying22 rfl) ?_
    refine L_wv rfl rfl rfl rfl rfl rfl (V_move rfl rfl) ?_
    refine L_wv rfl rfl rfl rfl rfl rfl (V_len rfl rfl Tryd.underlying22 rfl) ?_
    refine L_wv rfl rfl rfl rfl rfl rfl (V_leq rfl rfl rfl rfl) ?_
    refine L_same 133 rfl ((show Value.bool _ = Value.bool true from congrArg Value.bool (decide_eq_true (by have := (ap_B x0 x1 x2 z).2; omega)))) ?_
    first | refine L_v rfl rfl rfl (V_pickT rfl rfl rfl) ?_ | refine L_v rfl rfl rfl (V_pickF rfl rfl rfl) ?_
    refine L_v rfl rfl rfl (V_move rfl rfl) ?_
    refine L_wv rfl rfl rfl rfl rfl rfl (V_move rfl rfl) ?_
    refine L_wS rfl rfl rfl rfl (S_call rfl rfl rfl tx19wApa (fun w1 hw => (remove_w bd (crashD (ap6 x0 x1) 0 x2 z) H7 sB w1 (hw.memAt (List.Sublist.refl _)) hG7 ((wp6 hx0 hx1).crash 0 x2 z) (by decide)).mono ?_))
    rintro e w' ⟨H8, rfl, hG8, hU8⟩
    have hG8 : Good (removeD (crashD (ap6 x0 x1) 0 x2 z) sB) H8 := hG8
    have hU8 : Upd _ _ _ (dkM bd (removeD (crashD (ap6 x0 x1) 0 x2 z) sB) H8) [] := hU8
    refine ⟨.int .i64 (0), _, _, (by rw [(ap_R x0 x1 x2 z).1]), OkW.upd (m1 := []) hw hU8, rfl, ?_⟩
    refine L_mem (dkM bd (removeD (crashD (ap6 x0 x1) 0 x2 z) sB) H8) rfl ?_
    refine L_wv rfl rfl rfl rfl rfl rfl (V_eql rfl rfl rfl rfl) ?_
    first | refine L_v rfl rfl rfl (V_pickT rfl rfl rfl) ?_ | refine L_v rfl rfl rfl (V_pickF rfl rfl rfl) ?_
    refine L_v rfl rfl rfl (V_move rfl rfl) ?_
    refine L_wv rfl rfl rfl rfl rfl rfl (V_move rfl rfl) ?_
    refine L_wS rfl rfl rfl rfl (S_call rfl rfl rfl tx18wApa (fun w1 hw => (names_f bd (removeD (crashD (ap6 x0 x1) 0 x2 z) sB) H8 w1 (hw.memAt (List.Sublist.refl _)) hG8 (((wp6 hx0 hx1).crash 0 x2 z).remove sB) (by decide)).mono ?_))
    rintro e w' ⟨a142, c142, rfl, hfr, hn⟩
    refine ⟨_, _, _, rfl, hw.fr0 hfr, rfl, ?_⟩
    refine L_wv rfl rfl rfl rfl rfl rfl (V_len rfl rfl Tryd.underlying36 rfl) ?_
    refine L_wv rfl rfl rfl rfl rfl rfl (V_eql rfl rfl rfl rfl) ?_
    refine L_same 144 rfl ((show Value.bool _ = Value.bool true from congrArg Value.bool (decide_eq_true (by rw [(ap_R x0 x1 x2 z).2]; rfl)))) ?_
    first | refine L_v rfl rfl rfl (V_pickT rfl rfl rfl) ?_ | refine L_v rfl rfl rfl (V_pickF rfl rfl rfl) ?_
    refine L_v rfl rfl rfl (V_assign rfl rfl) ?_
    refine L_nil ?_
    change J _ _ _ _
    refine J_ret ?_
    change Kret _ _ _ Exit.ret _
    refine ret1 rfl rfl (RV_t rfl) ?_
    exact fun w' h => ⟨rfl, h.fr⟩

end Go.Proofs.YtcbpgnjlbbjieaaDoor
