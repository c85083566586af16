/- The law DiskSynced: its walk. -/
import Derived.Test.YtcbpgnjlbbjieaaDoorD6
set_option linter.unusedVariables false
set_option linter.unusedSimpArgs false
set_option maxRecDepth 100000
namespace Go.Proofs.YtcbpgnjlbbjieaaDoor
open Go.Sx
theorem bsO (o : OpV) (w : World) : (Instr.buildSlice 40 1 [(0, .agg (opC o).toArray)].toArray).run Tryd.prog w = .ok (.slice (some ⟨w.heap.size, 0, none⟩) 1 1) (w.alloc (row 47 (opC o))) := by kernel_rfl
theorem ops_hF {cx : Cx} {m m' : Mem} {fs : List Fact} {w : World} (h : OkW cx m fs w) {a : Option Addr} {c : Nat} {l : List OpV} (hf0 : opsF a c l ∈ fs) {x : OpV} (hx : x ∈ l) (hm : List.Sublist m' m) : ∀ f ∈ [opF x], f.p w ∧ ∀ k, f.fp k → k < w.heap.size ∧ k ∉ m'.map (·.1) := by
  intro f hf
  obtain rfl := List.mem_singleton.1 hf
  have h9 := h.facts _ hf0
  have hx' : opF x ∈ l.map opF := List.mem_map.2 ⟨x, hx, rfl⟩
  exact ⟨h9.1.2 _ hx', fun k hk => ⟨(h9.2 k (.inr ⟨_, hx', hk⟩)).1, fun hkm => (h9.2 k (.inr ⟨_, hx', hk⟩)).2 ((hm.map _).subset hkm)⟩⟩
section
variable {D : Dk} (h : D.down = true)
theorem dn_c (h : D.down = true) (f : ByteArray) : createE D f = 90 ∧ createD D f = D := ⟨createE_1 h, createD_no (createE_1 h) (by decide)⟩
theorem dn_n (h : D.down = true) (f : ByteArray) : nameE D f = 90 := nameE_1 h
theorem dn_a (h : D.down = true) (f : ByteArray) (l : List Int) : appendE D f l = 90 ∧ appendD D f l = D := by
  have h1 : appendE D f l = 90 := (appendE_1 (by rw [nameE_1 h]; decide)).trans (nameE_1 h)
  exact ⟨h1, appendD_no h1 (by decide)⟩
theorem dn_s (h : D.down = true) (f : ByteArray) : syncD D f = D := syncD_no (by rw [nameE_1 h]; decide)
theorem dn_r (h : D.down = true) (f t : ByteArray) : renameE D f t = 90 ∧ renameD D f t = D := by
  have h1 : renameE D f t = 90 := (renameE_1 (by rw [nameE_1 h]; decide)).trans (nameE_1 h)
  exact ⟨h1, renameD_no h1 (by decide)⟩
theorem dn_d (h : D.down = true) (f : ByteArray) : removeD D f = D := removeD_no (by rw [nameE_1 h]; decide)
theorem dn_t (h : D.down = true) (n : Int) : stopE D n = 90 ∧ stopD D n = D := ⟨stopE_1 h, stopD_no (stopE_1 h) (by decide)⟩
theorem stop_down (D : Dk) : (stopD D 0).down = true := by
  cases hd : D.down with
  | true => rw [(dn_t hd 0).2]; exact hd
  | false =>
    have h0 : stopE D 0 = 0 := stopE_0 hd (by decide)
    unfold stopD
    rw [if_pos h0]
    rfl
end
/-! ### A name that is renamed -/
def rn1 : Dk := ⟨4194304, [([], 0)], [], [(e0, sA, 0)], false, false, 0⟩
def rn2 (x : List Int) : Dk := ⟨4194304, [(x, 0)], [], [(e0, sA, 0)], false, false, 0⟩
def rn3 (x : List Int) : Dk := ⟨4194304, [(x, x.length)], [], [(e0, sA, 0)], false, false, 0⟩
def rn4 (x : List Int) : Dk := ⟨4194304, [(x, x.length)], [(sA, 0)], [], false, false, 0⟩
def rn5 (x : List Int) : Dk := ⟨4194304, [(x, x.length), ([], 0)], [(sA, 0)], [(e0, sN, 1)], false, false, 0⟩
def rn6 (x y : List Int) : Dk := ⟨4194304, [(x, x.length), (y, 0)], [(sA, 0)], [(e0, sN, 1)], false, false, 0⟩
def rn7 (x y : List Int) : Dk := ⟨4194304, [(x, x.length), (y, y.length)], [(sA, 0)], [(e0, sN, 1)], false, false, 0⟩
def rn8 (x y : List Int) : Dk := ⟨4194304, [(x, x.length), (y, y.length)], [(sA, 0)], [(e0, sN, 1), (sN, sA, 1)], false, false, 0⟩
theorem rE1 : createE (newD 4194304) sA = 0 := by kernel_rfl
theorem rD1 : createD (newD 4194304) sA = rn1 := by kernel_rfl
theorem rE2 {x : List Int} (h : x.length ≤ 100000) : appendE rn1 sA x = 0 := appendE_3 (i := 0) rfl (by kernel_rfl) (by show ¬ (4194304 : Int) - ((0 : Nat) : Int) < (x.length : Int); omega)
theorem rD2 {x : List Int} (h : x.length ≤ 100000) : appendD rn1 sA x = rn2 x := by
  rw [appendD_0 (rE2 h) (i := 0) (by kernel_rfl)]
  rfl
theorem rE3 (x : List Int) : nameE (rn2 x) sA = 0 := by kernel_rfl
theorem rD3 (x : List Int) : syncD (rn2 x) sA = rn3 x := by kernel_rfl
theorem rE4 (x : List Int) : namesE (rn3 x) = 0 := by kernel_rfl
theorem rD4 (x : List Int) : namesD (rn3 x) = rn4 x := by kernel_rfl
theorem rE5 (x : List Int) : createE (rn4 x) sN = 0 := by kernel_rfl
theorem rD5 (x : List Int) : createD (rn4 x) sN = rn5 x := by kernel_rfl
theorem rE6 {x y : List Int} (h : x.length ≤ 100000) (k : y.length ≤ 100000) : appendE (rn5 x) sN y = 0 := appendE_3 (i := 1) rfl (by kernel_rfl) (by show ¬ (4194304 : Int) - ((x.length + (0 + 0) : Nat) : Int) < (y.length : Int); omega)
theorem rD6 {x y : List Int} (h : x.length ≤ 100000) (k : y.length ≤ 100000) : appendD (rn5 x) sN y = rn6 x y := by
  rw [appendD_0 (rE6 h k) (i := 1) (by kernel_rfl)]
  rfl
theorem rE7 (x y : List Int) : nameE (rn6 x y) sN = 0 := by kernel_rfl
theorem rD7 (x y : List Int) : syncD (rn6 x y) sN = rn7 x y := by kernel_rfl
theorem rE8 (x y : List Int) : renameE (rn7 x y) sN sA = 0 := by kernel_rfl
theorem rD8 (x y : List Int) : renameD (rn7 x y) sN sA = rn8 x y := by kernel_rfl
theorem wr1 : WfD rn1 1 := rD1 ▸ (WfD.new (room := 4194304) (by decide)).create sA
theorem wr2 {x : List Int} (h : x.length ≤ 100000) : WfD (rn2 x) 1 := rD2 h ▸ wr1.append sA x
theorem wr3 {x : List Int} (h : x.length ≤ 100000) : WfD (rn3 x) 1 := rD3 x ▸ (wr2 h).sync sA
theorem wr4 {x : List Int} (h : x.length ≤ 100000) : WfD (rn4 x) 1 := rD4 x ▸ (wr3 h).names
theorem wr5 {x : List Int} (h : x.length ≤ 100000) : WfD (rn5 x) 2 := rD5 x ▸ (wr4 h).create sN
theorem wr6 {x y : List Int} (h : x.length ≤ 100000) (k : y.length ≤ 100000) : WfD (rn6 x y) 2 := rD6 h k ▸ (wr5 h).append sN y
theorem wr7 {x y : List Int} (h : x.length ≤ 100000) (k : y.length ≤ 100000) : WfD (rn7 x y) 2 := rD7 x y ▸ (wr6 h k).sync sN
theorem wr8 {x y : List Int} (h : x.length ≤ 100000) (k : y.length ≤ 100000) : WfD (rn8 x y) 3 := rD8 x y ▸ (wr7 h k).rename sN sA
theorem left_all (x : List Int) (tl : List Int) (i : Nat) (z : Int) : leftB (x, x.length) (tailK (x, x.length) tl i) z = x := by
  have h : tailK (x, x.length) tl i = 0 := by
    unfold tailK
    split
    · show (min (max (tl.getD i 0) 0) ((x.length - x.length : Nat) : Int)).toNat = 0
      omega
    · rfl
  rw [leftB_0 _ _ h, h]
  exact List.take_length
theorem crashS_k {D : Dk} {n : Int} (j : Nat) (h : (min (max n 0) D.ch.length).toNat = j) : crashS D n = (D.ch.take j).foldl doN D.sf := by
  unfold crashS
  rw [h]
/-- What a name says behind a crash. -/
theorem crash_read {D : Dk} {n : Int} {tl : List Int} {z : Int} {S : List Nm} (hS : crashS D n = S) {f : ByteArray} {i : Nat} (hi : i < S.length) (hg : getN (S.zipIdx.map fun p => ((p.1.1, p.2) : Nm)) f = some i) : readE (crashD D n tl z) f = 0 ∧ readB (crashD D n tl z) f = (crashB D tl z S i).1 := by
  have h1 : (crashD D n tl z).find f = some i := by
    show getN ((crashS D n).zipIdx.map fun p => (p.1.1, p.2)) f = some i
    rw [hS]
    exact hg
  refine ⟨readE_0 h1, ?_⟩
  rw [readB_0 h1]
  show (((List.range (crashS D n).length).map (crashB D tl z (crashS D n))).getD i bo0).1 = _
  rw [hS, List.getD_eq_getElem?_getD, List.getElem?_map, List.getElem?_range hi]
  rfl
theorem crash_len {D : Dk} {n : Int} {tl : List Int} {z : Int} : (crashD D n tl z).all.length = (crashS D n).length := by
  show (List.map _ _).length = _
  rw [List.length_map, List.length_zipIdx]
theorem rn_lt (x y tl : List Int) (z : Int) {n : Int} (h : n < 2) : readE (crashD (rn8 x y) n tl z) sA = 0 ∧ readB (crashD (rn8 x y) n tl z) sA = x := by
  have h2 : (min (max n 0) ((rn8 x y).ch.length : Int)).toNat = 0 ∨ (min (max n 0) ((rn8 x y).ch.length : Int)).toNat = 1 := by
    show (min (max n 0) ((2 : Nat) : Int)).toNat = 0 ∨ (min (max n 0) ((2 : Nat) : Int)).toNat = 1
    omega
  rcases h2 with h2 | h2
  · have := crash_read (tl := tl) (z := z) (S := [(sA, 0)]) (f := sA) (i := 0) (crashS_k 0 h2) (by decide) (by kernel_rfl)
    exact ⟨this.1, this.2.trans (left_all x tl 0 z)⟩
  · have := crash_read (tl := tl) (z := z) (S := [(sA, 0), (sN, 1)]) (f := sA) (i := 0) ((crashS_k 1 h2).trans (by kernel_rfl)) (by decide) (by kernel_rfl)
    exact ⟨this.1, this.2.trans (left_all x tl 0 z)⟩
theorem rn_ge (x y tl : List Int) (z : Int) {n : Int} (h : ¬ n < 2) : readE (crashD (rn8 x y) n tl z) sA = 0 ∧ readB (crashD (rn8 x y) n tl z) sA = y ∧ (crashD (rn8 x y) n tl z).all.length = 1 := by
  have h2 : (min (max n 0) ((rn8 x y).ch.length : Int)).toNat = 2 := by
    show (min (max n 0) ((2 : Nat) : Int)).toNat = 2
    omega
  have h3 : crashS (rn8 x y) n = [(sA, 1)] := (crashS_k 2 h2).trans (by kernel_rfl)
  have := crash_read (tl := tl) (z := z) (S := [(sA, 1)]) (f := sA) (i := 0) h3 (by decide) (by kernel_rfl)
  refine ⟨this.1, this.2.trans (left_all y tl 0 z), ?_⟩
  rw [crash_len, h3]
  rfl
theorem rn_E (x y tl : List Int) (z n : Int) : readE (crashD (rn8 x y) n tl z) sA = 0 := by
  by_cases h : n < 2
  · exact (rn_lt x y tl z h).1
  · exact (rn_ge x y tl z h).1
/-! ### Two files -/
def ap2 : Dk := ⟨4194304, [([], 0), ([], 0)], [], [(e0, sA, 0), (e0, sB, 1)], false, false, 0⟩
def ap3 (x : List Int) : Dk := ⟨4194304, [(x, 0), ([], 0)], [], [(e0, sA, 0), (e0, sB, 1)], false, false, 0⟩
def ap4 (x : List Int) : Dk := ⟨4194304, [(x, x.length), ([], 0)], [], [(e0, sA, 0), (e0, sB, 1)], false, false, 0⟩
def ap5 (x : List Int) : Dk := ⟨4194304, [(x, x.length), ([], 0)], [(sA, 0), (sB, 1)], [], false, false, 0⟩
def ap6 (x y : List Int) : Dk := ⟨4194304, [(x, x.length), (y, 0)], [(sA, 0), (sB, 1)], [], false, false, 0⟩
theorem pE2 : createE rn1 sB = 0 := by kernel_rfl
theorem pD2 : createD rn1 sB = ap2 := by kernel_rfl
theorem pE3 {x : List Int} (h : x.length ≤ 100000) : appendE ap2 sA x = 0 := appendE_3 (i := 0) rfl (by kernel_rfl) (by show ¬ (4194304 : Int) - ((0 : Nat) : Int) < (x.length : Int); omega)
theorem pD3 {x : List Int} (h : x.length ≤ 100000) : appendD ap2 sA x = ap3 x := by
  rw [appendD_0 (pE3 h) (i := 0) (by kernel_rfl)]
  rfl
theorem pE4 (x : List Int) : nameE (ap3 x) sA = 0 := by kernel_rfl
theorem pD4 (x : List Int) : syncD (ap3 x) sA = ap4 x := by kernel_rfl
theorem pE5 (x : List Int) : namesE (ap4 x) = 0 := by kernel_rfl
theorem pD5 (x : List Int) : namesD (ap4 x) = ap5 x := by kernel_rfl
theorem pE6 {x y : List Int} (h : x.length ≤ 100000) (k : y.length ≤ 100000) : appendE (ap5 x) sB y = 0 := appendE_3 (i := 1) rfl (by kernel_rfl) (by show ¬ (4194304 : Int) - ((x.length + (0 + 0) : Nat) : Int) < (y.length : Int); omega)
theorem pD6 {x y : List Int} (h : x.length ≤ 100000) (k : y.length ≤ 100000) : appendD (ap5 x) sB y = ap6 x y := by
  rw [appendD_0 (pE6 h k) (i := 1) (by kernel_rfl)]
  rfl
theorem wp2 : WfD ap2 2 := pD2 ▸ wr1.create sB
theorem wp3 {x : List Int} (h : x.length ≤ 100000) : WfD (ap3 x) 2 := pD3 h ▸ wp2.append sA x
theorem wp4 {x : List Int} (h : x.length ≤ 100000) : WfD (ap4 x) 2 := pD4 x ▸ (wp3 h).sync sA
theorem wp5 {x : List Int} (h : x.length ≤ 100000) : WfD (ap5 x) 2 := pD5 x ▸ (wp4 h).names
theorem wp6 {x y : List Int} (h : x.length ≤ 100000) (k : y.length ≤ 100000) : WfD (ap6 x y) 2 := pD6 h k ▸ (wp5 h).append sB y
theorem ap_S (x y : List Int) : crashS (ap6 x y) 0 = [(sA, 0), (sB, 1)] := by kernel_rfl
theorem ap_A (x y tl : List Int) (z : Int) : readE (crashD (ap6 x y) 0 tl z) sA = 0 ∧ readB (crashD (ap6 x y) 0 tl z) sA = x := by
  have := crash_read (tl := tl) (z := z) (f := sA) (i := 0) (ap_S x y) (by decide) (by kernel_rfl)
  exact ⟨this.1, this.2.trans (left_all x tl 0 z)⟩
theorem ap_B (x y tl : List Int) (z : Int) : readE (crashD (ap6 x y) 0 tl z) sB = 0 ∧ (readB (crashD (ap6 x y) 0 tl z) sB).length ≤ y.length := by
  have := crash_read (tl := tl) (z := z) (f := sB) (i := 1) (ap_S x y) (by decide) (by kernel_rfl)
  refine ⟨this.1, ?_⟩
  rw [this.2]
  have h1 := tailK_le (y, 0) tl 1 (Nat.zero_le _)
  show (leftB (y, 0) (tailK (y, 0) tl 1) z).length ≤ _
  rw [leftB_len _ _ _ h1]
  exact h1
theorem ap_R (x y tl : List Int) (z : Int) : nameE (crashD (ap6 x y) 0 tl z) sB = 0 ∧ (removeD (crashD (ap6 x y) 0 tl z) sB).all.length = 1 := by
  have h1 : (crashD (ap6 x y) 0 tl z).all = [(sA, 0), (sB, 1)] := by
    show ((crashS (ap6 x y) 0).zipIdx.map fun p => ((p.1.1, p.2) : Nm)) = _
    rw [ap_S]
    rfl
  have h2 : (crashD (ap6 x y) 0 tl z).find sB = some 1 := by
    unfold Dk.find
    rw [h1]
    kernel_rfl
  have h3 : nameE (crashD (ap6 x y) 0 tl z) sB = 0 := nameE_3 rfl h2
  refine ⟨h3, ?_⟩
  rw [removeD_0 h3, chg_all, h1]
  kernel_rfl
/-! ### What is synced is there -/
theorem xor_take (L : List Int) (z : Int) {m : Nat} (h : m ≤ L.length - 1) : (xorL L z).take m = L.take m := List.take_set_of_le h
theorem take_dropD (L : List Int) (a m : Nat) : (L.drop a).take m = (L.take (m + a)).drop a := by
  rw [List.drop_take, Nat.add_sub_cancel]
theorem getD_set_eq {α : Type} {l : List α} {i : Nat} {x d : α} (h : i < l.length) : (l.set i x).getD i d = x := by
  rw [List.getD_eq_getElem?_getD, List.getElem?_set_self h]
  rfl
theorem synced {D : Dk} {k : Nat} (hW : WfD D k) {f : ByteArray} {bh tl : List Int} {n z : Int} (e1 : nameE D f = 0) (e2 : namesE (syncD D f) = 0) :
    readE (namesD (syncD D f)) f = 0 ∧ (appendE (namesD (syncD D f)) f bh = 0 →
      readE (crashD (appendD (namesD (syncD D f)) f bh) n tl z) f = 0 ∧ ∃ kk, kk ≤ bh.length ∧ (readB (crashD (appendD (namesD (syncD D f)) f bh) n tl z) f).length = (readB (namesD (syncD D f)) f).length + kk ∧
        (readB (crashD (appendD (namesD (syncD D f)) f bh) n tl z) f).take (readB (namesD (syncD D f)) f).length = readB (namesD (syncD D f)) f ∧
        ∀ m, m + 1 = kk → ((readB (crashD (appendD (namesD (syncD D f)) f bh) n tl z) f).drop (readB (namesD (syncD D f)) f).length).take m = bh.take m) := by
  obtain ⟨hd, i, hi⟩ := nameE_0 e1
  have hil := hW.find_lt hi
  have hD1 := syncD_0 e1 hi
  have hd1 : (syncD D f).down = false := by
    unfold namesE at e2
    split at e2
    · cases e2
    · rename_i h
      simpa using h
  have hD2 := namesD_0 hd1
  have ha2 : (namesD (syncD D f)).all = D.all := by rw [hD2, hD1]; rfl
  have hf2 : (namesD (syncD D f)).find f = some i := by unfold Dk.find; rw [ha2]; exact hi
  have hb2 : (namesD (syncD D f)).bo.getD i bo0 = ((D.bo.getD i bo0).1, (D.bo.getD i bo0).1.length) := by
    rw [hD2, hD1]
    exact getD_set_eq hil
  have hr2 : readB (namesD (syncD D f)) f = (D.bo.getD i bo0).1 := by rw [readB_0 hf2, hb2]
  refine ⟨readE_0 hf2, fun e3 => ?_⟩
  rw [hr2]
  generalize hx : (D.bo.getD i bo0).1 = x at *
  have hD3 := appendD_0 e3 hf2
  rw [hb2] at hD3
  have hl3 : i < (namesD (syncD D f)).bo.length := by
    rw [hD2, hD1]
    show i < (D.bo.set i _).length
    rw [List.length_set]
    exact hil
  have hb3 : (appendD (namesD (syncD D f)) f bh).bo.getD i bo0 = (x ++ bh, x.length) := by
    rw [hD3]
    exact getD_set_eq hl3
  have hS : crashS (appendD (namesD (syncD D f)) f bh) n = D.all := by
    have h1 : (appendD (namesD (syncD D f)) f bh).ch = [] := by rw [hD3, hD2]; rfl
    have h2 : (appendD (namesD (syncD D f)) f bh).sf = D.all := by
      rw [← ha2, hD3, hD2]
      rfl
    unfold crashS
    rw [h1, h2]
    simp
  obtain ⟨j, hj⟩ := List.mem_iff_getElem?.1 ((getN_some hW.asrt.nodup).1 hi)
  have hjl := (List.getElem?_eq_some_iff.1 hj).1
  have hg : getN (D.all.zipIdx.map fun p => ((p.1.1, p.2) : Nm)) f = some j := by
    refine (getN_some (by rw [zip_fst]; exact hW.asrt.nodup)).2 (List.mem_map.2 ⟨((f, i), j), ?_, rfl⟩)
    exact List.mem_zipIdx_iff_getElem?.2 hj
  obtain ⟨r1, r2⟩ := crash_read (tl := tl) (z := z) hS hjl hg
  refine ⟨r1, tailK (x ++ bh, x.length) tl j, ?_⟩
  have hSj : D.all.getD j (e0, 0) = (f, i) := by rw [List.getD_eq_getElem?_getD, hj]; rfl
  have hrb : readB (crashD (appendD (namesD (syncD D f)) f bh) n tl z) f = leftB (x ++ bh, x.length) (tailK (x ++ bh, x.length) tl j) z := by
    rw [r2]
    show leftB ((appendD (namesD (syncD D f)) f bh).bo.getD (D.all.getD j (e0, 0)).2 bo0) (tailK ((appendD (namesD (syncD D f)) f bh).bo.getD (D.all.getD j (e0, 0)).2 bo0) tl j) z = _
    rw [hSj]
    show leftB ((appendD (namesD (syncD D f)) f bh).bo.getD i bo0) (tailK ((appendD (namesD (syncD D f)) f bh).bo.getD i bo0) tl j) z = _
    rw [hb3]
  have hk0 := tailK_le (x ++ bh, x.length) tl j (by show x.length ≤ (x ++ bh).length; rw [List.length_append]; omega)
  generalize tailK (x ++ bh, x.length) tl j = kk at *
  have hk : x.length + kk ≤ (x ++ bh).length := hk0
  have hlen := leftB_len (x ++ bh, x.length) kk z hk0
  rw [List.length_append] at hk
  rw [hrb]
  refine ⟨by omega, hlen, ?_, fun m hm => ?_⟩
  · by_cases h0 : kk = 0
    · rw [leftB_0 _ _ h0, h0]
      show ((x ++ bh).take (x.length + 0)).take x.length = x
      rw [Nat.add_zero, List.take_take, Nat.min_self, List.take_left]
    · rw [leftB_1 _ _ h0, xor_take _ _ (by show x.length ≤ ((x ++ bh).take (x.length + kk)).length - 1; rw [List.length_take, List.length_append]; omega)]
      show ((x ++ bh).take (x.length + kk)).take x.length = x
      rw [List.take_take, Nat.min_eq_left (by omega), List.take_left]
  · have h0 : kk ≠ 0 := by omega
    rw [leftB_1 _ _ h0, take_dropD, xor_take _ _ (by show m + x.length ≤ ((x ++ bh).take (x.length + kk)).length - 1; rw [List.length_take, List.length_append]; omega)]
    show (((x ++ bh).take (x.length + kk)).take (m + x.length)).drop x.length = bh.take m
    rw [List.take_take, Nat.min_eq_left (by omega), Nat.add_comm, List.take_length_add_append, List.drop_left]
theorem readB_len {D : Dk} {k : Nat} (h : WfD D k) (f : ByteArray) : (readB D f).length ≤ 4194304 := by
  unfold readB
  split
  · exact Nat.zero_le _
  · exact (h.bod _).2.1
theorem sz5wSyn : (Tryd.prog.info? 5).map (·.size) = some 1 := by kernel_rfl
theorem sz47wSyn : (Tryd.prog.info? 47).map (·.size) = some 7 := by kernel_rfl
theorem tx9wSyn : Txt Tryd.prog 9 := txt_of Tryd.func9 rfl (by kernel_rfl)
theorem tx11wSyn : Txt Tryd.prog 11 := txt_of Tryd.func11 rfl (by kernel_rfl)
theorem tx12wSyn : Txt Tryd.prog 12 := txt_of Tryd.func12 rfl (by kernel_rfl)
theorem tx13wSyn : Txt Tryd.prog 13 := txt_of Tryd.func13 rfl (by kernel_rfl)
theorem tx15wSyn : Txt Tryd.prog 15 := txt_of Tryd.func15 rfl (by kernel_rfl)
theorem tx16wSyn : Txt Tryd.prog 16 := txt_of Tryd.func16 rfl (by kernel_rfl)
theorem tx17wSyn : Txt Tryd.prog 17 := txt_of Tryd.func17 rfl (by kernel_rfl)
theorem tx20wSyn : Txt Tryd.prog 20 := txt_of Tryd.func20 rfl (by kernel_rfl)
theorem tx22wSyn : Txt Tryd.prog 22 := txt_of Tryd.func22 rfl (by kernel_rfl)
theorem tx26wSyn : Txt Tryd.prog 26 := txt_of Tryd.func26 rfl (by kernel_rfl)

set_option maxHeartbeats 4000000 in
theorem DiskSynced_w (a0 : Option Addr) (c0 : Nat) (l : List OpV) (file : ByteArray) (a2 : Option Addr) (c2 : Nat) (x2 : List Int) (n : Int) (a4 : Option Addr) (c4 : Nat) (x4 : List Int) (z : Int) (w : World) (hF : FW w [opsF a0 c0 l, factB (.slice a2 x2.length c2) x2, factC 1 (.slice a4 x4.length c4) x4.length (intV x4)]) (hc2 : x2.length ≤ c2) :
    Calls Tryd.prog 6 #[.slice a0 l.length c0, .string file, .slice a2 x2.length c2, .int .i64 n, .slice a4 x4.length c4, .int .u8 z] w fun e w' => e = .returned (.bool true) ∧ Fr [] w w' := by
  have hsl := (hF _ (List.mem_cons_self ..)).l.1
  refine calls_of (args := [.slice a0 l.length c0, .string file, .slice a2 x2.length c2, .int .i64 n, .slice a4 x4.length c4, .int .u8 z]) ([]) ([]) ([opsF a0 c0 l, factB (.slice a2 x2.length c2) x2, factC 1 (.slice a4 x4.length c4) x4.length (intV x4)]) Tryd.func6 rfl rfl (okFW hF) ?_
  refine J_seq ?_
  refine J_region ?_
  refine L_v rfl rfl rfl (V_assign rfl rfl) ?_
  refine L_nil ?_
  change J _ _ _ _
  refine J_seq ?_
  refine J_seq ?_
  refine J_region ?_
  refine L_v rfl rfl rfl (V_move rfl rfl) ?_
  refine L_cons rfl (S_call rfl rfl rfl tx20wSyn (fun w1 hw => (large_w a0 c0 l w1 (hw.fa 0 rfl).l.1).mono ?_))
  rintro e w' ⟨bl, rfl, hfr, hlg⟩
  refine ⟨_, _, _, rfl, hw.fr0 hfr, rfl, ?_⟩
  refine L_v rfl rfl rfl (V_move rfl rfl) ?_
  apply L_or 3 25 29
  · rfl
  · rfl
  · rfl
  · rfl
  · rfl
  · rfl
  · rfl
  · kernel_rfl
  · intro hb1 _ _ hk1
    refine L_wv rfl rfl rfl rfl rfl rfl (V_move rfl rfl) ?_
    refine L_wv rfl rfl rfl rfl rfl rfl (V_len rfl rfl Tryd.underlying22 rfl) ?_
    refine L_wv rfl rfl rfl rfl rfl rfl (V_gtr rfl rfl rfl rfl) ?_
    exact hk1 _ ⟨rfl, (by first | simp only [St.put] | rfl), (by first | simp only [St.put] | rfl), (by first | simp only [St.put] | rfl), ext_cut 3 (by kernel_rfl) (by kernel_rfl)⟩
  refine L_v rfl rfl rfl (V_move rfl rfl) ?_
  apply L_or 3 30 34
  · rfl
  · rfl
  · rfl
  · rfl
  · rfl
  · rfl
  · rfl
  · kernel_rfl
  · intro hb2 _ _ hk2
    refine L_wv rfl rfl rfl rfl rfl rfl (V_move rfl rfl) ?_
    refine L_wv rfl rfl rfl rfl rfl rfl (V_len rfl rfl Tryd.underlying23 rfl) ?_
    refine L_wv rfl rfl rfl rfl rfl rfl (V_gtr rfl rfl rfl rfl) ?_
    exact hk2 _ ⟨rfl, (by first | simp only [St.put] | rfl), (by first | simp only [St.put] | rfl), (by first | simp only [St.put] | rfl), ext_cut 3 (by kernel_rfl) (by kernel_rfl)⟩
  refine L_nil ?_
  change J _ _ _ _
  refine J_cond rfl (fun h3 => ?_) (fun h3 => ?_)
  ·
    first | (have h3 := of_decide_eq_true h3) | (have h3 := of_decide_eq_false h3) | skip
    refine J_seq ?_
    refine J_region ?_
    refine L_v rfl rfl rfl (V_assign rfl rfl) ?_
    refine L_nil ?_
    change J _ _ _ _
    refine J_ret ?_
    change Kret _ _ _ Exit.ret _
    refine ret1 rfl rfl (RV_t rfl) ?_
    exact fun w' h => ⟨rfl, h.fr⟩
  ·
    first | (have h3 := of_decide_eq_true h3) | (have h3 := of_decide_eq_false h3) | skip
    rw [Bool.or_eq_false_iff, Bool.or_eq_false_iff, decide_eq_false_iff_not, decide_eq_false_iff_not] at h3
    obtain ⟨⟨hbl, hx2⟩, hx4⟩ := h3
    obtain ⟨hl2, hlb⟩ := hlg hbl
    refine J_skip ?_
    change J _ _ _ _
    refine J_seq ?_
    refine J_region ?_
    refine L_call rfl rfl rfl rfl tx9wSyn (fun w1 hw => (new_w 4194304 w1).mono ?_)
    rintro e w' (⟨h9, _⟩ | ⟨_, bd, H0, rfl, hG0, hU0⟩)
    · exact absurd (by decide) h9
    have hG0 : Good (newD 4194304) H0 := hG0
    have hU0 : Upd _ _ _ (dkM bd (newD 4194304) H0) [] := hU0
    refine ⟨_, _, _, rfl, OkW.upd (m1 := []) hw hU0, rfl, ?_⟩
    refine L_mem (dkM bd (newD 4194304) H0) rfl ?_
    refine L_v rfl rfl rfl (V_move rfl rfl) ?_
    refine L_v rfl rfl rfl (V_extract rfl rfl rfl) ?_
    refine L_v rfl rfl rfl (V_extract rfl rfl rfl) ?_
    refine L_v rfl rfl rfl (V_assign rfl rfl) ?_
    refine L_v rfl rfl rfl (V_assign rfl rfl) ?_
    refine L_nil ?_
    change J _ _ _ _
    refine J_seq ?_
    refine J_seq ?_
    refine J_region ?_
    refine L_v rfl rfl rfl (V_move rfl rfl) ?_
    refine L_v rfl rfl rfl (V_eqP rfl rfl rfl Tryd.underlying24 rfl) ?_
    refine L_v rfl rfl rfl (V_move rfl rfl) ?_
    apply L_or 2 41 44
    · rfl
    · rfl
    · rfl
    · rfl
    · rfl
    · rfl
    · rfl
    · kernel_rfl
    · intro hb4 _ _ hk4
      refine L_wv rfl rfl rfl rfl rfl rfl (V_move rfl rfl) ?_
      refine L_wv rfl rfl rfl rfl rfl rfl (V_neq rfl rfl rfl rfl) ?_
      exact hk4 _ ⟨rfl, (by first | simp only [St.put] | rfl), (by first | simp only [St.put] | rfl), (by first | simp only [St.put] | rfl), ext_cut 2 (by kernel_rfl) (by kernel_rfl)⟩
    refine L_nil ?_
    change J _ _ _ _
    refine J_false rfl ?_
    refine J_skip ?_
    change J _ _ _ _
    refine J_seq ?_
    refine J_seq ?_
    refine J_region ?_
    refine L_v rfl rfl rfl (V_assign rfl rfl) ?_
    refine L_nil ?_
    change J _ _ _ _
    refine J_block ?_
    refine J_loop (X := Nat × Dk × DkH) (fun x => { env := [(0, .slice a0 l.length c0), (1, .string file), (2, .slice a2 x2.length c2), (3, .int .i64 n), (4, .slice a4 x4.length c4), (5, .int .u8 z), (13, .pointer (some ⟨bd, 0, none⟩)), (15, .int .i64 (x.1 : Int))], mem := dkM bd x.2.1 x.2.2, facts := [opsF a0 c0 l, factB (.slice a2 x2.length c2) x2, factC 1 (.slice a4 x4.length c4) x4.length (intV x4)] }) (fun x => x.1 ≤ l.length ∧ Good x.2.1 x.2.2 ∧ WfD x.2.1 x.1) (fun x => l.length - x.1) (0, newD 4194304, H0) ⟨Nat.zero_le _, hG0, .new (by decide)⟩ ⟨⟨rfl, rfl, rfl, rfl, rfl, rfl, rfl, rfl, trivial⟩, List.Sublist.refl _, fun f hf => List.mem_append_left _ hf, rfl⟩ ?_
    rintro ⟨i, D, H⟩ ⟨hil, hG, hW⟩
    try simp only at hil hG hW ⊢
    refine J_seq ?_
    refine J_seq ?_
    refine J_region ?_
    refine L_v rfl rfl rfl (V_move rfl rfl) ?_
    refine L_v rfl rfl rfl (V_move rfl rfl) ?_
    refine L_v rfl rfl rfl (V_len rfl rfl Tryd.underlying40 rfl) ?_
    refine L_v rfl rfl rfl (V_lss rfl rfl rfl rfl) ?_
    refine L_nil ?_
    change J _ _ _ _
    refine J_cond rfl (fun h5 => ?_) (fun h5 => ?_)
    ·
      first | (have h5 := of_decide_eq_true h5) | (have h5 := of_decide_eq_false h5) | skip
      have hi : i < l.length := by omega
      have hAt : ∃ b off, a0 = some ⟨b, off, none⟩ := by obtain ⟨b, off, e, _⟩ := hsl.cell (op_at hi 0 _ rfl); exact ⟨b, off, e⟩
      refine J_skip ?_
      change J _ _ _ _
      refine J_seq ?_
      refine J_block ?_
      refine J_region ?_
      refine L_v rfl rfl rfl (V_move rfl rfl) ?_
      refine L_v rfl rfl rfl (V_move rfl rfl) ?_
      refine L_v rfl rfl rfl (V_move rfl rfl) ?_
      refine L_v rfl rfl rfl (V_indexN rfl rfl rfl Tryd.underlying40 sz47wSyn hAt (by omega) (by omega)) ?_
      refine L_v rfl rfl rfl (V_loadCN (vs := opC (l.getD i op0)) rfl rfl Tryd.underlying47 rfl (szd sz47wSyn (by kernel_rfl)) (fun w hw => (hw.fa 0 rfl).l.1) (by exact Nat.zero_lt_succ _) (op_at hi)) ?_
      refine L_call rfl rfl rfl rfl tx22wSyn (fun w1 hw => (call_w bd D H (l.getD i op0) w1 (hw.memAt (List.Sublist.refl _)) hG hW (by omega) (ops_hF hw (List.mem_of_getElem? (i := 0) rfl) (getD_mem hi) (List.Sublist.refl _)) (by have := (hlb i hi).1; omega)).mono ?_)
      rintro e w' ⟨H1, rfl, hG1, hU1⟩
      have hG1 : Good (opD D (l.getD i op0)) H1 := hG1
      have hU1 : Upd _ _ _ (dkM bd (opD D (l.getD i op0)) H1) [] := hU1
      refine ⟨_, _, _, rfl, OkW.upd (m1 := []) hw hU1, rfl, ?_⟩
      refine L_mem (dkM bd (opD D (l.getD i op0)) H1) rfl ?_
      refine L_nil ?_
      change J _ _ _ _
      refine J_region ?_
      refine L_v rfl rfl rfl (V_move rfl rfl) ?_
      refine L_v rfl rfl rfl (V_add (r := ((i + 1 : Nat) : Int)) rfl rfl rfl (by rw [IntKind.wrap_i64]; omega)) ?_
      refine L_v rfl rfl rfl (V_assign rfl rfl) ?_
      refine L_nil ?_
      exact ⟨(i + 1, opD D (l.getD i op0), H1), ⟨by show i + 1 ≤ l.length; omega, hG1, WfD.op hW _⟩, by show l.length - (i + 1) < l.length - i; omega, ⟨rfl, rfl, rfl, rfl, rfl, rfl, rfl, rfl, trivial⟩, List.Sublist.refl _, fun f hf => List.mem_append_left _ hf, rfl⟩
    ·
      first | (have h5 := of_decide_eq_true h5) | (have h5 := of_decide_eq_false h5) | skip
      refine J_exit ?_
      change J _ _ _ _
      refine J_seq ?_
      refine J_region ?_
      refine L_v rfl rfl rfl (V_move rfl rfl) ?_
      refine L_v rfl rfl rfl (V_move rfl rfl) ?_
      refine L_call rfl rfl rfl rfl tx12wSyn (fun w1 hw => (sync_w bd D H file w1 (hw.memAt (List.Sublist.refl _)) hG hW (by omega)).mono ?_)
      rintro e w' ⟨H1, rfl, hG1, hU1⟩
      have hG1 : Good (syncD D file) H1 := hG1
      have hU1 : Upd _ _ _ (dkM bd (syncD D file) H1) [] := hU1
      refine ⟨_, _, _, rfl, OkW.upd (m1 := []) hw hU1, rfl, ?_⟩
      refine L_mem (dkM bd (syncD D file) H1) rfl ?_
      refine L_v rfl rfl rfl (V_assign rfl rfl) ?_
      refine L_nil ?_
      change J _ _ _ _
      refine J_seq ?_
      refine J_region ?_
      refine L_v rfl rfl rfl (V_move rfl rfl) ?_
      refine L_call rfl rfl rfl rfl tx13wSyn (fun w1 hw => (syncNames_w bd (syncD D file) H1  w1 (hw.memAt (List.Sublist.refl _)) hG1 (hW.sync file) (by omega)).mono ?_)
      rintro e w' ⟨H2, rfl, hG2, hU2⟩
      have hG2 : Good (namesD (syncD D file)) H2 := hG2
      have hU2 : Upd _ _ _ (dkM bd (namesD (syncD D file)) H2) [] := hU2
      refine ⟨_, _, _, rfl, OkW.upd (m1 := []) hw hU2, rfl, ?_⟩
      refine L_mem (dkM bd (namesD (syncD D file)) H2) rfl ?_
      refine L_v rfl rfl rfl (V_assign rfl rfl) ?_
      refine L_nil ?_
      change J _ _ _ _
      refine J_seq ?_
      refine J_seq ?_
      refine J_region ?_
      refine L_v rfl rfl rfl (V_move rfl rfl) ?_
      refine L_v rfl rfl rfl (V_neq rfl rfl rfl rfl) ?_
      refine L_v rfl rfl rfl (V_move rfl rfl) ?_
      apply L_or 2 64 67
      · rfl
      · rfl
      · rfl
      · rfl
      · rfl
      · rfl
      · rfl
      · kernel_rfl
      · intro hb6 _ _ hk6
        refine L_wv rfl rfl rfl rfl rfl rfl (V_move rfl rfl) ?_
        refine L_wv rfl rfl rfl rfl rfl rfl (V_neq rfl rfl rfl rfl) ?_
        exact hk6 _ ⟨rfl, (by first | simp only [St.put] | rfl), (by first | simp only [St.put] | rfl), (by first | simp only [St.put] | rfl), ext_cut 2 (by kernel_rfl) (by kernel_rfl)⟩
      refine L_nil ?_
      change J _ _ _ _
      refine J_cond rfl (fun h7 => ?_) (fun h7 => ?_)
      ·
        first | (have h7 := of_decide_eq_true h7) | (have h7 := of_decide_eq_false h7) | skip
        refine J_seq ?_
        refine J_region ?_
        refine L_callV rfl rfl rfl rfl rfl rfl tx17wSyn (fun w1 hw => awake_w w1) ?_
        refine L_v rfl rfl rfl (V_assign rfl rfl) ?_
        refine L_nil ?_
        change J _ _ _ _
        refine J_ret ?_
        change Kret _ _ _ Exit.ret _
        refine ret1 rfl rfl (RV_t rfl) ?_
        exact fun w' h => ⟨rfl, h.fr⟩
      ·
        first | (have h7 := of_decide_eq_true h7) | (have h7 := of_decide_eq_false h7) | skip
        rw [Bool.or_eq_false_iff, decide_eq_false_iff_not, decide_eq_false_iff_not, Classical.not_not, Classical.not_not] at h7
        obtain ⟨e1, e2⟩ := h7
        obtain ⟨hr, hs⟩ := synced hW e1 e2 (bh := x2) (tl := x4) (n := n) (z := z)
        refine J_skip ?_
        change J _ _ _ _
        refine J_seq ?_
        refine J_region ?_
        refine L_v rfl rfl rfl (V_move rfl rfl) ?_
        refine L_v rfl rfl rfl (V_move rfl rfl) ?_
        refine L_call rfl rfl rfl rfl tx16wSyn (fun w1 hw => (read_f bd (namesD (syncD D file)) H2 file w1 (hw.memAt (List.Sublist.refl _)) hG2 ((hW.sync file).names)).mono ?_)
        rintro e w' ⟨a72, c72, hcp72, rfl, hfr, hn⟩
        refine ⟨_, _, _, rfl, hw.newN hfr hn, rfl, ?_⟩
        refine L_v rfl rfl rfl (V_move rfl rfl) ?_
        refine L_v rfl rfl rfl (V_extract rfl rfl rfl) ?_
        refine L_v rfl rfl rfl (V_extract rfl rfl rfl) ?_
        refine L_v rfl rfl rfl (V_assign rfl rfl) ?_
        refine L_v rfl rfl rfl (V_assign rfl rfl) ?_
        refine L_nil ?_
        change J _ _ _ _
        refine J_seq ?_
        refine J_seq ?_
        refine J_region ?_
        refine L_v rfl rfl rfl (V_move rfl rfl) ?_
        refine L_v rfl rfl rfl (V_neq rfl rfl rfl (decide_eq_false (fun h => h hr))) ?_
        refine L_v rfl rfl rfl (V_move rfl rfl) ?_
        refine L_wv rfl rfl rfl rfl rfl rfl (V_move rfl rfl) ?_
        refine L_wv rfl rfl rfl rfl rfl rfl (V_move rfl rfl) ?_
        refine L_wv rfl rfl rfl rfl rfl rfl (V_move rfl rfl) ?_
        refine L_wS rfl rfl rfl rfl (S_call rfl rfl rfl tx11wSyn (fun w1 hw => (append_w bd (namesD (syncD D file)) H2 file a2 c2 x2 w1 (hw.memAt (List.Sublist.refl _)) hG2 ((hW.sync file).names) (by omega) (fun f hf => by obtain rfl := List.mem_singleton.1 hf; exact hw.facts _ (List.mem_of_getElem? (i := 1) rfl))).mono ?_))
        rintro e w' ⟨H3, rfl, hG3, hU3⟩
        have hG3 : Good (appendD (namesD (syncD D file)) file x2) H3 := hG3
        have hU3 : Upd _ _ _ (dkM bd (appendD (namesD (syncD D file)) file x2) H3) [] := hU3
        refine ⟨_, _, _, rfl, OkW.upd (m1 := []) hw hU3, rfl, ?_⟩
        refine L_mem (dkM bd (appendD (namesD (syncD D file)) file x2) H3) rfl ?_
        refine L_wv rfl rfl rfl rfl rfl rfl (V_neq rfl rfl rfl rfl) ?_
        first | refine L_v rfl rfl rfl (V_pickT rfl rfl rfl) ?_ | refine L_v rfl rfl rfl (V_pickF rfl rfl rfl) ?_
        refine L_nil ?_
        change J _ _ _ _
        refine J_cond rfl (fun h8 => ?_) (fun h8 => ?_)
        ·
          first | (have h8 := of_decide_eq_true h8) | (have h8 := of_decide_eq_false h8) | skip
          refine J_seq ?_
          refine J_region ?_
          refine L_callV rfl rfl rfl rfl rfl rfl tx17wSyn (fun w1 hw => awake_w w1) ?_
          refine L_v rfl rfl rfl (V_move rfl rfl) ?_
          refine L_wv rfl rfl rfl rfl rfl rfl (V_move rfl rfl) ?_
          refine L_wcallV rfl rfl rfl rfl rfl rfl rfl rfl rfl tx26wSyn (fun w1 hw => down_w bd (appendD (namesD (syncD D file)) file x2) H3 w1 (hw.at (i := 0) rfl)) ?_
          refine L_wv rfl rfl rfl rfl rfl rfl (V_move rfl rfl) ?_
          refine L_split 88 rfl (fun h9 => ?_) (fun h9 => ?_)
          ·
            first | (have h9 := of_decide_eq_true h9) | (have h9 := of_decide_eq_false h9) | skip
            refine L_skip rfl rfl rfl rfl rfl rfl rfl ?_
            refine L_skip rfl rfl rfl rfl rfl rfl rfl ?_
            first | refine L_wv rfl rfl rfl rfl rfl rfl (V_pickT rfl rfl rfl) ?_ | refine L_wv rfl rfl rfl rfl rfl rfl (V_pickF rfl rfl rfl) ?_
            first | refine L_v rfl rfl rfl (V_pickT rfl rfl rfl) ?_ | refine L_v rfl rfl rfl (V_pickF rfl rfl rfl) ?_
            refine L_v rfl rfl rfl (V_assign rfl rfl) ?_
            refine L_nil ?_
            change J _ _ _ _
            refine J_ret ?_
            change Kret _ _ _ Exit.ret _
            refine ret1 rfl rfl (RV_t rfl) ?_
            exact fun w' h => ⟨rfl, h.fr⟩
          ·
            first | (have h9 := of_decide_eq_true h9) | (have h9 := of_decide_eq_false h9) | skip
            refine L_wv rfl rfl rfl rfl rfl rfl (V_move rfl rfl) ?_
            refine L_wv rfl rfl rfl rfl rfl rfl (V_eql rfl rfl rfl (decide_eq_true hr)) ?_
            first | refine L_wv rfl rfl rfl rfl rfl rfl (V_pickT rfl rfl rfl) ?_ | refine L_wv rfl rfl rfl rfl rfl rfl (V_pickF rfl rfl rfl) ?_
            first | refine L_v rfl rfl rfl (V_pickT rfl rfl rfl) ?_ | refine L_v rfl rfl rfl (V_pickF rfl rfl rfl) ?_
            refine L_v rfl rfl rfl (V_assign rfl rfl) ?_
            refine L_nil ?_
            change J _ _ _ _
            refine J_ret ?_
            change Kret _ _ _ Exit.ret _
            refine ret1 rfl rfl (RV_t rfl) ?_
            exact fun w' h => ⟨rfl, h.fr⟩
        ·
          first | (have h8 := of_decide_eq_true h8) | (have h8 := of_decide_eq_false h8) | skip
          have e3 : appendE (namesD (syncD D file)) file x2 = 0 := Classical.not_not.1 h8
          obtain ⟨hr4, kk, hk1, hk2, hk3, hk4⟩ := hs e3
          have hlw := readB_len (hW.sync file).names file
          have hln := readB_len (((hW.sync file).names.append file x2).crash n x4 z) file
          refine J_skip ?_
          change J _ _ _ _
          refine J_seq ?_
          refine J_region ?_
          refine L_v rfl rfl rfl (V_move rfl rfl) ?_
          refine L_v rfl rfl rfl (V_move rfl rfl) ?_
          refine L_v rfl rfl rfl (V_move rfl rfl) ?_
          refine L_v rfl rfl rfl (V_move rfl rfl) ?_
          refine L_call rfl rfl rfl rfl tx15wSyn (fun w1 hw => (crash_w bd (appendD (namesD (syncD D file)) file x2) H3 n a4 c4 x4 z w1 (hw.memAt (List.Sublist.refl _)) hG3 ((hW.sync file).names.append file x2) (by omega) (fun f hf => by obtain rfl := List.mem_singleton.1 hf; exact hw.facts _ (List.mem_of_getElem? (i := 2) rfl))).mono ?_)
          rintro e w' ⟨H4, rfl, hG4, hU4⟩
          have hG4 : Good (crashD (appendD (namesD (syncD D file)) file x2) n x4 z) H4 := hG4
          have hU4 : Upd _ _ _ (dkM bd (crashD (appendD (namesD (syncD D file)) file x2) n x4 z) H4) [] := hU4
          refine ⟨_, _, _, rfl, OkW.upd (m1 := []) hw hU4, rfl, ?_⟩
          refine L_mem (dkM bd (crashD (appendD (namesD (syncD D file)) file x2) n x4 z) H4) rfl ?_
          refine L_nil ?_
          change J _ _ _ _
          refine J_seq ?_
          refine J_region ?_
          refine L_v rfl rfl rfl (V_move rfl rfl) ?_
          refine L_v rfl rfl rfl (V_move rfl rfl) ?_
          refine L_call rfl rfl rfl rfl tx16wSyn (fun w1 hw => (read_f bd (crashD (appendD (namesD (syncD D file)) file x2) n x4 z) H4 file w1 (hw.memAt (List.Sublist.refl _)) hG4 (((hW.sync file).names.append file x2).crash n x4 z)).mono ?_)
          rintro e w' ⟨a101, c101, hcp101, rfl, hfr, hn⟩
          refine ⟨_, _, _, rfl, hw.newN hfr hn, rfl, ?_⟩
          refine L_v rfl rfl rfl (V_move rfl rfl) ?_
          refine L_v rfl rfl rfl (V_extract rfl rfl rfl) ?_
          refine L_v rfl rfl rfl (V_extract rfl rfl rfl) ?_
          refine L_v rfl rfl rfl (V_assign rfl rfl) ?_
          refine L_v rfl rfl rfl (V_assign rfl rfl) ?_
          refine L_nil ?_
          change J _ _ _ _
          refine J_seq ?_
          refine J_seq ?_
          refine J_regionQ rfl (by kernel_rfl) ?_
          refine LQ_v rfl rfl rfl (V_move rfl rfl) ?_
          refine LQ_v rfl rfl rfl (V_neq rfl rfl rfl (decide_eq_false (fun h => h hr4))) ?_
          refine LQ_v rfl rfl rfl (V_move rfl rfl) ?_
          refine LQ_wv rfl rfl rfl rfl rfl rfl (V_move rfl rfl) ?_
          refine LQ_wv rfl rfl rfl rfl rfl rfl (V_len rfl rfl Tryd.underlying22 rfl) ?_
          refine LQ_wv rfl rfl rfl rfl rfl rfl (V_move rfl rfl) ?_
          refine LQ_wv rfl rfl rfl rfl rfl rfl (V_len rfl rfl Tryd.underlying22 rfl) ?_
          refine LQ_wv rfl rfl rfl rfl rfl rfl (V_lss rfl rfl rfl (decide_eq_false (by omega))) ?_
          first | refine LQ_v rfl rfl rfl (V_pickT rfl rfl rfl) ?_ | refine LQ_v rfl rfl rfl (V_pickF rfl rfl rfl) ?_
          refine LQ_v rfl rfl rfl (V_move rfl rfl) ?_
          refine LQ_wv rfl rfl rfl rfl rfl rfl (V_move rfl rfl) ?_
          refine LQ_wv rfl rfl rfl rfl rfl rfl (V_len rfl rfl Tryd.underlying22 rfl) ?_
          refine LQ_wv rfl rfl rfl rfl rfl rfl (V_move rfl rfl) ?_
          refine LQ_wv rfl rfl rfl rfl rfl rfl (V_len rfl rfl Tryd.underlying22 rfl) ?_
          refine LQ_wv rfl rfl rfl rfl rfl rfl (V_sub (r := ((kk : Nat) : Int)) rfl rfl rfl (by show IntKind.i64.wrap (((readB (crashD (appendD (namesD (syncD D file)) file x2) n x4 z) file).length : Int) - ((readB (namesD (syncD D file)) file).length : Int)) = _; rw [IntKind.wrap_i64]; omega)) ?_
          refine LQ_wv rfl rfl rfl rfl rfl rfl (V_move rfl rfl) ?_
          refine LQ_wv rfl rfl rfl rfl rfl rfl (V_len rfl rfl Tryd.underlying22 rfl) ?_
          refine LQ_wv rfl rfl rfl rfl rfl rfl (V_gtr rfl rfl rfl (decide_eq_false (by omega))) ?_
          first | refine LQ_v rfl rfl rfl (V_pickT rfl rfl rfl) ?_ | refine LQ_v rfl rfl rfl (V_pickF rfl rfl rfl) ?_
          refine LQ_v rfl rfl rfl (V_move rfl rfl) ?_
          refine LQ_wv rfl rfl rfl rfl rfl rfl (V_move rfl rfl) ?_
          refine LQ_wv rfl rfl rfl rfl rfl rfl (V_move rfl rfl) ?_
          refine LQ_wv rfl rfl rfl rfl rfl rfl (V_len rfl rfl Tryd.underlying22 rfl) ?_
          refine LQ_wv rfl rfl rfl rfl rfl rfl (V_slice0 (h := (readB (namesD (syncD D file)) file).length) rfl rfl Tryd.underlying22 sz5wSyn (Bd.at rfl rfl) rfl rfl (by omega) (Nat.le_refl _)) ?_
          refine LQ_wv rfl rfl rfl rfl rfl rfl (V_str rfl rfl Tryd.underlying22 Tryd.underlying5 Tryd.underlying9 (fun w hw => SlB.take (show SlB w (.slice a101 (readB (crashD (appendD (namesD (syncD D file)) file x2) n x4 z) file).length c101) (readB (crashD (appendD (namesD (syncD D file)) file x2) n x4 z) file) from (hw.facts _ (List.mem_of_getElem? (i := 4) rfl)).1) (by omega) _)) ?_
          refine LQ_wv rfl rfl rfl rfl rfl rfl (V_move rfl rfl) ?_
          refine LQ_wv rfl rfl rfl rfl rfl rfl (V_str rfl rfl Tryd.underlying22 Tryd.underlying5 Tryd.underlying9 (fun w hw => (hw.facts _ (List.mem_of_getElem? (i := 3) rfl)).1)) ?_
          refine LQ_wv rfl rfl rfl rfl rfl rfl (V_neS rfl rfl rfl (decide_eq_false (fun h => h (by rw [hk3])))) ?_
          first | refine LQ_v rfl rfl rfl (V_pickT rfl rfl rfl) ?_ | refine LQ_v rfl rfl rfl (V_pickF rfl rfl rfl) ?_
          refine LQ_v rfl rfl rfl (V_move rfl rfl) ?_
          refine LQ_wv rfl rfl rfl rfl rfl rfl (V_move rfl rfl) ?_
          refine LQ_wcallV rfl rfl rfl rfl rfl rfl rfl rfl rfl tx26wSyn (fun w1 hw => down_w bd (crashD (appendD (namesD (syncD D file)) file x2) n x4 z) H4 w1 (hw.at (i := 0) rfl)) ?_
          first | refine LQ_v rfl rfl rfl (V_pickT rfl rfl rfl) ?_ | refine LQ_v rfl rfl rfl (V_pickF rfl rfl rfl) ?_
          refine LQ_nil ?_
          change J _ _ _ _
          refine J_false rfl ?_
          refine J_skip ?_
          change J _ _ _ _
          refine J_seq ?_
          refine J_region ?_
          refine L_v rfl rfl rfl (V_move rfl rfl) ?_
          refine L_v rfl rfl rfl (V_len rfl rfl Tryd.underlying22 rfl) ?_
          refine L_v rfl rfl rfl (V_move rfl rfl) ?_
          refine L_v rfl rfl rfl (V_len rfl rfl Tryd.underlying22 rfl) ?_
          refine L_v rfl rfl rfl (V_sub (r := ((kk : Nat) : Int)) rfl rfl rfl (by show IntKind.i64.wrap (((readB (crashD (appendD (namesD (syncD D file)) file x2) n x4 z) file).length : Int) - ((readB (namesD (syncD D file)) file).length : Int)) = _; rw [IntKind.wrap_i64]; omega)) ?_
          refine L_v rfl rfl rfl (V_assign rfl rfl) ?_
          refine L_nil ?_
          change J _ _ _ _
          refine J_seq ?_
          refine J_regionQ rfl (by kernel_rfl) ?_
          refine LQ_callV rfl rfl rfl rfl rfl rfl tx17wSyn (fun w1 hw => awake_w w1) ?_
          refine LQ_v rfl rfl rfl (V_move rfl rfl) ?_
          refine LQ_wv rfl rfl rfl rfl rfl rfl (V_move rfl rfl) ?_
          refine LQ_wv rfl rfl rfl rfl rfl rfl (V_eql rfl rfl rfl rfl) ?_
          refine LQ_wv rfl rfl rfl rfl rfl rfl (V_move rfl rfl) ?_
          refine LQ_split 146 rfl (fun h9 => ?_) (fun h9 => ?_)
          ·
            first | (have h9 := of_decide_eq_true h9) | (have h9 := of_decide_eq_false h9) | skip
            refine LQ_skip rfl rfl rfl rfl rfl rfl rfl ?_
            refine LQ_skip rfl rfl rfl rfl rfl rfl rfl ?_
            refine LQ_skip rfl rfl rfl rfl rfl rfl rfl ?_
            refine LQ_skip rfl rfl rfl rfl rfl rfl rfl ?_
            refine LQ_skip rfl rfl rfl rfl rfl rfl rfl ?_
            refine LQ_skip rfl rfl rfl rfl rfl rfl rfl ?_
            refine LQ_skip rfl rfl rfl rfl rfl rfl rfl ?_
            refine LQ_skip rfl rfl rfl rfl rfl rfl rfl ?_
            refine LQ_skip rfl rfl rfl rfl rfl rfl rfl ?_
            refine LQ_skip rfl rfl rfl rfl rfl rfl rfl ?_
            refine LQ_skip rfl rfl rfl rfl rfl rfl rfl ?_
            refine LQ_skip rfl rfl rfl rfl rfl rfl rfl ?_
            refine LQ_skip rfl rfl rfl rfl rfl rfl rfl ?_
            refine LQ_skip rfl rfl rfl rfl rfl rfl rfl ?_
            first | refine LQ_wv rfl rfl rfl rfl rfl rfl (V_pickT rfl rfl rfl) ?_ | refine LQ_wv rfl rfl rfl rfl rfl rfl (V_pickF rfl rfl rfl) ?_
            first | refine LQ_v rfl rfl rfl (V_pickT rfl rfl rfl) ?_ | refine LQ_v rfl rfl rfl (V_pickF rfl rfl rfl) ?_
            refine LQ_v rfl rfl rfl (V_assign rfl rfl) ?_
            refine LQ_nil ?_
            change J _ _ _ _
            refine J_ret ?_
            change Kret _ _ _ Exit.ret _
            refine ret1 rfl rfl (RV_t rfl) ?_
            exact fun w' h => ⟨rfl, h.fr⟩
          ·
            first | (have h9 := of_decide_eq_true h9) | (have h9 := of_decide_eq_false h9) | skip
            refine LQ_wv rfl rfl rfl rfl rfl rfl (V_move rfl rfl) ?_
            refine LQ_wv rfl rfl rfl rfl rfl rfl (V_move rfl rfl) ?_
            refine LQ_wv rfl rfl rfl rfl rfl rfl (V_len rfl rfl Tryd.underlying22 rfl) ?_
            refine LQ_wv rfl rfl rfl rfl rfl rfl (V_move rfl rfl) ?_
            refine LQ_wv rfl rfl rfl rfl rfl rfl (V_len rfl rfl Tryd.underlying22 rfl) ?_
            refine LQ_wv rfl rfl rfl rfl rfl rfl (V_sub (r := (((readB (crashD (appendD (namesD (syncD D file)) file x2) n x4 z) file).length - 1 : Nat) : Int)) rfl rfl rfl (by show IntKind.i64.wrap (((readB (crashD (appendD (namesD (syncD D file)) file x2) n x4 z) file).length : Int) - 1) = _; rw [IntKind.wrap_i64]; omega)) ?_
            refine LQ_wv rfl rfl rfl rfl rfl rfl (V_sliceS (l := (readB (namesD (syncD D file)) file).length) (h := (readB (crashD (appendD (namesD (syncD D file)) file x2) n x4 z) file).length - 1) (m := c101) rfl rfl Tryd.underlying22 sz5wSyn (Bd.at rfl rfl) (Bd.at rfl rfl) rfl rfl (by omega) (by omega) (Nat.le_refl _) rfl) ?_
            refine LQ_wv rfl rfl rfl rfl rfl rfl (V_str rfl rfl Tryd.underlying22 Tryd.underlying5 Tryd.underlying9 (fun w hw => SlB.part (show SlB w (.slice a101 (readB (crashD (appendD (namesD (syncD D file)) file x2) n x4 z) file).length c101) (readB (crashD (appendD (namesD (syncD D file)) file x2) n x4 z) file) from (hw.facts _ (List.mem_of_getElem? (i := 4) rfl)).1) (l := (readB (namesD (syncD D file)) file).length) (hh := (readB (crashD (appendD (namesD (syncD D file)) file x2) n x4 z) file).length - 1) (by omega) (by omega) (by omega))) ?_
            refine LQ_wv rfl rfl rfl rfl rfl rfl (V_move rfl rfl) ?_
            refine LQ_wv rfl rfl rfl rfl rfl rfl (V_move rfl rfl) ?_
            refine LQ_wv rfl rfl rfl rfl rfl rfl (V_sub (r := ((kk - 1 : Nat) : Int)) rfl rfl rfl (by rw [IntKind.wrap_i64]; omega)) ?_
            refine LQ_wv rfl rfl rfl rfl rfl rfl (V_slice0 (h := kk - 1) rfl rfl Tryd.underlying22 sz5wSyn (Bd.at rfl rfl) rfl rfl (by omega) (Nat.le_refl _)) ?_
            refine LQ_wv rfl rfl rfl rfl rfl rfl (V_str rfl rfl Tryd.underlying22 Tryd.underlying5 Tryd.underlying9 (fun w hw => SlB.take (show SlB w (.slice a2 x2.length c2) x2 from (hw.facts _ (List.mem_of_getElem? (i := 1) rfl)).1) (by omega) _)) ?_
            refine LQ_wv rfl rfl rfl rfl rfl rfl (V_eqS rfl rfl rfl (decide_eq_true (by rw [hk4 _ (show (readB (crashD (appendD (namesD (syncD D file)) file x2) n x4 z) file).length - 1 - (readB (namesD (syncD D file)) file).length + 1 = kk by omega), show (readB (crashD (appendD (namesD (syncD D file)) file x2) n x4 z) file).length - 1 - (readB (namesD (syncD D file)) file).length = kk - 1 by omega]))) ?_
            first | refine LQ_wv rfl rfl rfl rfl rfl rfl (V_pickT rfl rfl rfl) ?_ | refine LQ_wv rfl rfl rfl rfl rfl rfl (V_pickF rfl rfl rfl) ?_
            first | refine LQ_v rfl rfl rfl (V_pickT rfl rfl rfl) ?_ | refine LQ_v rfl rfl rfl (V_pickF rfl rfl rfl) ?_
            refine LQ_v rfl rfl rfl (V_assign rfl rfl) ?_
            refine LQ_nil ?_
            change J _ _ _ _
            refine J_ret ?_
            change Kret _ _ _ Exit.ret _
            refine ret1 rfl rfl (RV_t rfl) ?_
            exact fun w' h => ⟨rfl, h.fr⟩

end Go.Proofs.YtcbpgnjlbbjieaaDoor
