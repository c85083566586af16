/- What a law of layer 11 is handed, as plain data. -/
import Derived.Test.YtcbpgnjlbbjieaaDoorD6
import Derived.Test.YtcbpgnjlbbjieaaDoorSxOpen
set_option linter.unusedVariables false
set_option linter.unusedSimpArgs false
set_option maxRecDepth 100000
namespace Go.Proofs.YtcbpgnjlbbjieaaDoor
open Go.ChangeShapes Go.WideShapes Go.ChangeAt Go.RowKit Go.Sx
def Cap (v : Value) : Prop := ∀ a n c, v = .slice a n c → n ≤ c
theorem cutL {α : Type} {cs l : List α} {off n : Nat} (h : (cs.drop off).take n = l) : cs.drop off = l ++ cs.drop (off + n) := by
  rw [← h, ← List.drop_drop, List.take_append_drop]
section
variable {P : Program} {H : Type} {enc : TypeId × Value → H} {W : World} {b0 : Nat} {sp : Nat → Bool} {hd : Bool} {t e : TypeId} {m : Nat} {cs : List Value} {y : DataW H × List MemPlace}
theorem trod_nums {k : IntKind} (hu : P.underlying t = some (.slice e)) (he : P.underlying e = some (.int k)) (hz : P.cellsOf e = 1) (hf : DataW.trod enc P W b0 sp hd m t cs = some y) :
    ∃ (v : Value) (l : List Int), cs = [v] ∧ SlC 1 W v l.length (l.map (Value.int k)) ∧ Cap v := by
  rcases open_ints hu he hz hf with ⟨hcs, _⟩ | ⟨x, len, cap, zs, hcs, _, hl, hm, hzl, _, hcell, hwz⟩
  · exact ⟨_, [], hcs, .inl ⟨rfl, rfl, none, 0, rfl⟩, fun a n c h => by cases h; exact Nat.le_refl _⟩
  · have hlz : len ≤ zs.length := by rw [hzl]; split <;> omega
    have hlt : (zs.take len).length = len := by rw [List.length_take]; omega
    refine ⟨_, zs.take len, hcs, ?_, fun a n c h => by cases h; exact hl⟩
    rw [hlt]
    by_cases h0 : len = 0
    · subst h0
      exact .inl ⟨rfl, by simp, some x, cap, rfl⟩
    · obtain ⟨b, off, spot⟩ := x
      have hspot : spot = none := by
        have := hcell 0 (by omega)
        simpa [Addr.add] using World.cell?_spot this
      subst hspot
      refine .inr ⟨b, off, cap, rfl, by rw [List.length_map, hlt, Nat.mul_one], fun j y hj => ?_⟩
      have hjl : j < len := by
        have := (List.getElem?_eq_some_iff.1 hj).1
        rw [List.length_map, hlt] at this
        exact this
      have := hcell j (by omega)
      rw [add_at] at this
      rw [this]
      rw [List.getElem?_map, List.getElem?_take, if_pos hjl] at hj
      rw [List.getD_eq_getElem?_getD, List.getElem?_eq_getElem (by omega)]
      rw [List.getElem?_eq_getElem (by omega)] at hj
      exact hj
end

theorem trod_op {H : Type} {enc : TypeId × Value → H} {W : World} {b0 : Nat} {sp : Nat → Bool} {hd : Bool} {m : Nat} {cs : List Value} {y : DataW H × List MemPlace} (hf : DataW.trod enc Tryd.prog W b0 sp hd m 47 cs = some y) : ∃ x : OpV, cs = opC x ∧ (FA W (opF x) ∧ x.file.size ≤ maxLen ∧ x.to.size ≤ maxLen) := by
  obtain ⟨xs, m, rfl, hy, hl, hxl, hi⟩ := DataW.trod_struct Tryd.underlying47 hf
  have z0 : Tryd.prog.cellsOf 3 = 1 := by kernel_rfl
  have z1 : Tryd.prog.cellsOf 9 = 1 := by kernel_rfl
  have z2 : Tryd.prog.cellsOf 9 = 1 := by kernel_rfl
  have z3 : Tryd.prog.cellsOf 22 = 1 := by kernel_rfl
  have z4 : Tryd.prog.cellsOf 3 = 1 := by kernel_rfl
  have z5 : Tryd.prog.cellsOf 23 = 1 := by kernel_rfl
  have z6 : Tryd.prog.cellsOf 5 = 1 := by kernel_rfl
  have zz : Tryd.prog.cellsOf 47 = 7 := by kernel_rfl
  have hxl2 : xs.length = 7 := hxl
  have h0 := hi 0 _ rfl
  rw [List.getElem?_eq_getElem (by omega)] at h0
  have h1 := hi 1 _ rfl
  rw [List.getElem?_eq_getElem (by omega)] at h1
  have h2 := hi 2 _ rfl
  rw [List.getElem?_eq_getElem (by omega)] at h2
  have h3 := hi 3 _ rfl
  rw [List.getElem?_eq_getElem (by omega)] at h3
  have h4 := hi 4 _ rfl
  rw [List.getElem?_eq_getElem (by omega)] at h4
  have h5 := hi 5 _ rfl
  rw [List.getElem?_eq_getElem (by omega)] at h5
  have h6 := hi 6 _ rfl
  rw [List.getElem?_eq_getElem (by omega)] at h6
  obtain ⟨p0, e0, _, w0⟩ := DataW.trod_int Tryd.underlying3 h0
  obtain ⟨p1, e1, _, zs1⟩ := DataW.trod_string Tryd.underlying9 h1
  obtain ⟨p2, e2, _, zs2⟩ := DataW.trod_string Tryd.underlying9 h2
  obtain ⟨v3, p3, e3, s3, _⟩ := trod_nums Tryd.underlying22 Tryd.underlying5 (by kernel_rfl) h3
  obtain ⟨a3, c3, rfl⟩ := s3.form
  obtain ⟨p4, e4, _, w4⟩ := DataW.trod_int Tryd.underlying3 h4
  obtain ⟨v5, p5, e5, s5, _⟩ := trod_nums Tryd.underlying23 Tryd.underlying3 (by kernel_rfl) h5
  obtain ⟨a5, c5, rfl⟩ := s5.form
  obtain ⟨p6, e6, _, w6⟩ := DataW.trod_int Tryd.underlying5 h6
  have hb : SlB W (.slice a3 p3.length c3) p3 := SlC.toB' s3
  refine ⟨⟨p0, p1, p2, a3, c3, p3, p4, a5, c5, p5, p6⟩, ?_, ⟨.and ⟨hb, fun k hk => factB_lt hb k hk⟩ (.slc s5), zs1, zs2⟩⟩
  rw [zz] at hl
  have c100 : cs.drop 0 = [.int .i64 p0] ++ cs.drop 1 := cutL (off := 0) (n := 1) (by have h : (cs.drop 0).take (Tryd.prog.cellsOf 3) = [.int .i64 p0] := e0; rw [z0] at h; exact h)
  have c101 : cs.drop 1 = [.string p1] ++ cs.drop 2 := cutL (off := 1) (n := 1) (by have h : (cs.drop 1).take (Tryd.prog.cellsOf 9) = [.string p1] := e1; rw [z1] at h; exact h)
  have c102 : cs.drop 2 = [.string p2] ++ cs.drop 3 := cutL (off := 2) (n := 1) (by have h : (cs.drop 2).take (Tryd.prog.cellsOf 9) = [.string p2] := e2; rw [z2] at h; exact h)
  have c103 : cs.drop 3 = [.slice a3 p3.length c3] ++ cs.drop 4 := cutL (off := 3) (n := 1) (by have h : (cs.drop 3).take (Tryd.prog.cellsOf 22) = [.slice a3 p3.length c3] := e3; rw [z3] at h; exact h)
  have c104 : cs.drop 4 = [.int .i64 p4] ++ cs.drop 5 := cutL (off := 4) (n := 1) (by have h : (cs.drop 4).take (Tryd.prog.cellsOf 3) = [.int .i64 p4] := e4; rw [z4] at h; exact h)
  have c105 : cs.drop 5 = [.slice a5 p5.length c5] ++ cs.drop 6 := cutL (off := 5) (n := 1) (by have h : (cs.drop 5).take (Tryd.prog.cellsOf 23) = [.slice a5 p5.length c5] := e5; rw [z5] at h; exact h)
  have c106 : cs.drop 6 = [.int .u8 p6] ++ cs.drop 7 := cutL (off := 6) (n := 1) (by have h : (cs.drop 6).take (Tryd.prog.cellsOf 5) = [.int .u8 p6] := e6; rw [z6] at h; exact h)
  have c107 : cs.drop 7 = [] := List.drop_eq_nil_of_le (by omega)
  have hh : cs = [.int .i64 p0] ++ ([.string p1] ++ ([.string p2] ++ ([.slice a3 p3.length c3] ++ ([.int .i64 p4] ++ ([.slice a5 p5.length c5] ++ ([.int .u8 p6] ++ [])))))) := (c100.trans (congrArg (_ ++ ·) (c101.trans (congrArg (_ ++ ·) (c102.trans (congrArg (_ ++ ·) (c103.trans (congrArg (_ ++ ·) (c104.trans (congrArg (_ ++ ·) (c105.trans (congrArg (_ ++ ·) (c106.trans (congrArg (_ ++ ·) c107))))))))))))))
  exact hh
theorem open_op {H : Type} {enc : TypeId × Value → H} {W : World} {b0 : Nat} {sp : Nat → Bool} {hd : Bool} {base : Nat} {v : Value} {d : DataW H} {q : List MemPlace} (hok : Value.okWide Tryd.prog W .any base 47 v) (h : DataW.Trod enc Tryd.prog W b0 sp hd 47 v d q) : ∃ x : OpV, v = .agg (opC x).toArray ∧ FA W (opF x) := by
  unfold Value.okWide at hok
  rw [Tryd.underlying47] at hok
  obtain ⟨cs, rfl, hcs, _⟩ := hok
  obtain ⟨fuel, hf⟩ := h
  obtain ⟨x, hx, h1⟩ := trod_op hf
  refine ⟨x, ?_, h1.1⟩
  congr 1
  apply Array.ext'
  exact hx
theorem open_ops {H : Type} {enc : TypeId × Value → H} {W : World} {b0 : Nat} {sp : Nat → Bool} {hd : Bool} {base : Nat} {v : Value} {d : DataW H} {q : List MemPlace} (hok : Value.okWide Tryd.prog W .any base 40 v) (h : DataW.Trod enc Tryd.prog W b0 sp hd 40 v d q) : ∃ l : List OpV, SlC 7 W v l.length (opR l) ∧ ∀ x ∈ l, (FA W (opF x) ∧ x.file.size ≤ maxLen ∧ x.to.size ≤ maxLen) := by
  obtain ⟨n, l, rfl, hs, hg⟩ := open_list (f := opC) (sz := 6) (good := fun x => (FA W (opF x) ∧ x.file.size ≤ maxLen ∧ x.to.size ≤ maxLen)) (fun _ => rfl) (by kernel_rfl) Tryd.underlying40 (fun m cs y hy => trod_op hy) hok h
  exact ⟨l, by rw [List.flatMap_def] at hs; exact hs, hg⟩
end Go.Proofs.YtcbpgnjlbbjieaaDoor
