/- Part 12 of the texts that the law leans on. -/
import Derived.Test.YtfdmjjhgdbpfeaaDoorCBa1
import Derived.ProofKit
import Derived.OpenShut
import Derived.SliceStrings
import Derived.Test.YtfdmjjhgdbpfeaaDoorCBa4
import Derived.Test.YtfdmjjhgdbpfeaaDoorProg
import Derived.Test.YtfdmjjhgdbpfeaaDoorCBa11
/- What the arguments of a law are, as lists. -/
set_option linter.unusedVariables false
set_option linter.unusedSimpArgs false
namespace Go.Sx
open Go.ChangeShapes Go.WideShapes Go.ChangeAt Go.RowKit
variable {H : Type} {enc : TypeId × Value → H} {P : Program} {W : World} {base b0 : Nat} {sp : Nat → Bool} {hd : Bool} {t e : TypeId} {v : Value} {d : DataW H} {p : List MemPlace}
theorem wf_u8 {n : Int} (h : (Lit.int .u8 n).wf = true) : 0 ≤ n ∧ n < 256 := by
  have := bounds_u8 h
  omega
def numOf : Value → Int
  | .int _ n => n
  | _ => 0
theorem open_dg {n : Nat} (hu : P.underlying t = some (.array n e)) (he : P.underlying e = some (.int .u8)) (hz : P.cellsOf e = 1 ∧ P.cellsOf t = n) (hok : Value.okWide P W .any base t v) (h : DataW.Trod enc P W b0 sp hd t v d p) :
    ∃ l : List Int, v = .agg (dg l).toArray ∧ l.length = n ∧ Byt l := by
  unfold Value.okWide at hok
  rw [hu] at hok
  obtain ⟨cs, rfl, hcs, _⟩ := hok
  obtain ⟨fuel, hf⟩ := h
  obtain ⟨xs, m, rfl, hx, hl, hxl, hi⟩ := DataW.trod_array hu hf
  have hl' : cs.toList.length = n := by
    have : (Value.agg cs).cells.toList = cs.toList := rfl
    rw [this] at hl
    rw [hl]
    exact hz.2
  have key : ∀ i : Nat, (hi' : i < n) → ∃ x : Int, cs.toList[i]? = some (.int .u8 x) ∧ 0 ≤ x ∧ x < 256 := by
    intro i hi'
    have h1 := hi i hi'
    rw [List.getElem?_eq_getElem (by omega)] at h1
    obtain ⟨x, hx, _, hw⟩ := DataW.trod_int he h1
    refine ⟨x, ?_, wf_u8 hw⟩
    have h2 := congrArg (fun l => l[0]?) hx
    simp only [hz.1, Nat.mul_one] at h2
    simpa [List.getElem?_take, List.getElem?_drop, Value.cells] using h2
  refine ⟨cs.toList.map numOf, ?_, by simpa using hl', fun x hx => ?_⟩
  · congr 1
    apply Array.ext'
    apply List.ext_getElem?
    intro i
    by_cases hin : i < n
    · obtain ⟨x, hx, _⟩ := key i hin
      simp only [dg, List.getElem?_map, hx, Option.map_some, numOf]
    · rw [List.getElem?_eq_none (by omega), List.getElem?_eq_none (by simp [dg]; simp at hl'; omega)]
  · obtain ⟨u, hu', rfl⟩ := List.mem_map.1 hx
    obtain ⟨i, hi'⟩ := List.mem_iff_getElem?.1 hu'
    have hin : i < n := by rw [← hl']; exact (List.getElem?_eq_some_iff.1 hi').1
    obtain ⟨x, hx, h0, h1⟩ := key i hin
    rw [hx] at hi'
    injection hi' with hi'
    subst hi'
    exact ⟨h0, h1⟩
theorem trod_dg {n fuel : Nat} {cs : List Value} {x : DataW H × List MemPlace} (hu : P.underlying t = some (.array n e)) (he : P.underlying e = some (.int .u8)) (hz : P.cellsOf e = 1 ∧ P.cellsOf t = n) (hf : DataW.trod enc P W b0 sp hd fuel t cs = some x) :
    ∃ l : List Int, cs = dg l ∧ l.length = n ∧ Byt l := by
  obtain ⟨xs, m, rfl, hx, hl, hxl, hi⟩ := DataW.trod_array hu hf
  rw [hz.2] at hl
  have key : ∀ i : Nat, (hi' : i < n) → ∃ x : Int, cs[i]? = some (.int .u8 x) ∧ 0 ≤ x ∧ x < 256 := by
    intro i hi'
    have h1 := hi i hi'
    rw [List.getElem?_eq_getElem (by omega)] at h1
    obtain ⟨x, hx, _, hw⟩ := DataW.trod_int he h1
    refine ⟨x, ?_, wf_u8 hw⟩
    have h2 := congrArg (fun l => l[0]?) hx
    simp only [hz.1, Nat.mul_one] at h2
    simpa [List.getElem?_take, List.getElem?_drop] using h2
  refine ⟨cs.map numOf, ?_, by simpa using hl, fun x hx => ?_⟩
  · apply List.ext_getElem?
    intro i
    by_cases hin : i < n
    · obtain ⟨x, hx, _⟩ := key i hin
      simp only [dg, List.getElem?_map, hx, Option.map_some, numOf]
    · rw [List.getElem?_eq_none (by omega), List.getElem?_eq_none (by simp [dg]; omega)]
  · obtain ⟨u, hu', rfl⟩ := List.mem_map.1 hx
    obtain ⟨i, hi'⟩ := List.mem_iff_getElem?.1 hu'
    have hin : i < n := by rw [← hl]; exact (List.getElem?_eq_some_iff.1 hi').1
    obtain ⟨x, hx, h0, h1⟩ := key i hin
    rw [hx] at hi'
    injection hi' with hi'
    subst hi'
    exact ⟨h0, h1⟩
theorem open_cap (hu : P.underlying t = some (.slice e)) (he : P.underlying e = some (.int .u8)) (hz : P.cellsOf e = 1) (hok : Value.okWide P W .any base t v) (h : DataW.Trod enc P W b0 sp hd t v d p) :
    ∀ a n c, v = .slice a n c → n ≤ c := by
  obtain ⟨a, len, cap, rfl⟩ := okWide_slice hu hok
  obtain ⟨fuel, hf⟩ := h
  rintro a' n' c' e'
  obtain ⟨rfl, rfl, rfl⟩ := Value.slice.injEq .. ▸ e'
  rcases open_ints hu he hz hf with ⟨hcs, _⟩ | ⟨x, l, c, zs, hcs, _, hl, hm, hzl, _, hcell, hwz⟩
  · simp [Value.cells] at hcs
    omega
  · simp [Value.cells] at hcs
    obtain ⟨_, rfl, rfl⟩ := hcs
    exact hl
theorem open_capL (hu : P.underlying t = some (.slice e)) (hok : Value.okWide P W .any base t v) (h : DataW.Trod enc P W b0 sp hd t v d p) : ∀ a n c, v = .slice a n c → n ≤ c := by
  obtain ⟨a, len, cap, rfl⟩ := okWide_slice hu hok
  obtain ⟨fuel, hf⟩ := h
  rintro a' n' c' e'
  obtain ⟨rfl, rfl, rfl⟩ := Value.slice.injEq .. ▸ e'
  rcases DataW.trod_slice hu hf with ⟨hcs, _⟩ | ⟨x, len', cap', elems, rest, m, _, hcs, _, hb, hl, hm, hlen, he, _, _⟩
  · simp [Value.cells] at hcs
    omega
  · simp [Value.cells] at hcs
    obtain ⟨_, rfl, rfl⟩ := hcs
    exact hl
end Go.Sx

/- What a law of layer 21 is handed, as plain data. -/
set_option linter.unusedVariables false
set_option linter.unusedSimpArgs false
set_option maxRecDepth 100000
namespace Go.Proofs.YtfdmjjhgdbpfeaaDoor
open Go.ChangeShapes Go.WideShapes Go.ChangeAt Go.RowKit Go.Sx
def Cap (v : Value) : Prop := ∀ a n c, v = .slice a n c → n ≤ c
/-! ### Cells -/
theorem cutS {α : Type} {cs l : List α} {off n : Nat} (h : (cs.drop off).take n = l) : cs.drop off = l ++ cs.drop (off + n) := by
  rw [← h, ← List.drop_drop, List.take_append_drop]
section
variable {P : Program} {H : Type} {enc : TypeId × Value → H} {W : World} {b0 : Nat} {sp : Nat → Bool} {hd : Bool} {t e : TypeId} {m : Nat} {cs : List Value} {y : DataW H × List MemPlace}
theorem trod_l32 (hu : P.underlying t = some (.array 32 e)) (he : P.underlying e = some (.int .u8)) (hz : P.cellsOf e = 1 ∧ P.cellsOf t = 32) (hf : DataW.trod enc P W b0 sp hd m t cs = some y) : ∃ f : Dg, cs = dg (l32 f) ∧ Byt (l32 f) := by
  obtain ⟨l, rfl, hl, hb⟩ := trod_dg hu he hz hf
  exact ⟨ofL l, by rw [l32_ofL hl], by rw [l32_ofL hl]; exact hb⟩
theorem trod_nums {k : IntKind} (hu : P.underlying t = some (.slice e)) (he : P.underlying e = some (.int k)) (hz : P.cellsOf e = 1) (hf : DataW.trod enc P W b0 sp hd m t cs = some y) :
    ∃ (v : Value) (l : List Int), cs = [v] ∧ SlC 1 W v l.length (l.map (Value.int k)) ∧ Cap v := by
  rcases open_ints hu he hz hf with ⟨hcs, _⟩ | ⟨x, len, cap, zs, hcs, _, hl, hm, hzl, _, hcell, hwz⟩
  · exact ⟨_, [], hcs, .inl ⟨rfl, rfl, none, 0, rfl⟩, fun a n c h => by cases h; exact Nat.le_refl _⟩
  · have hlz : len ≤ zs.length := by rw [hzl]; split <;> omega
    have hlt : (zs.take len).length = len := by rw [List.length_take]; omega
    refine ⟨_, zs.take len, hcs, ?_, fun a n c h => by cases h; exact hl⟩
    rw [hlt]
    by_cases h0 : len = 0
    · subst h0
      exact .inl ⟨rfl, by simp, some x, cap, rfl⟩
    · obtain ⟨b, off, spot⟩ := x
      have hspot : spot = none := by
        have := hcell 0 (by omega)
        simpa [Addr.add] using World.cell?_spot this
      subst hspot
      refine .inr ⟨b, off, cap, rfl, by rw [List.length_map, hlt, Nat.mul_one], fun j y hj => ?_⟩
      have hjl : j < len := by
        have := (List.getElem?_eq_some_iff.1 hj).1
        rw [List.length_map, hlt] at this
        exact this
      have := hcell j (by omega)
      rw [add_at] at this
      rw [this]
      rw [List.getElem?_map, List.getElem?_take, if_pos hjl] at hj
      rw [List.getD_eq_getElem?_getD, List.getElem?_eq_getElem (by omega)]
      rw [List.getElem?_eq_getElem (by omega)] at hj
      exact hj
theorem trod_rows {α : Type} {sz : Nat} {f : α → List Value} {good : α → Prop} (hsz : ∀ x, (f x).length = sz + 1) (hz : P.cellsOf e = sz + 1) (hu : P.underlying t = some (.slice e))
    (hel : ∀ (m : Nat) cs y, DataW.trod enc P W b0 sp hd m e cs = some y → ∃ x : α, cs = f x ∧ good x) (hf : DataW.trod enc P W b0 sp hd m t cs = some y) :
    ∃ (v : Value) (l : List α), cs = [v] ∧ SlC (sz + 1) W v l.length (l.map f).flatten ∧ Cap v ∧ ∀ x ∈ l, good x := by
  rcases DataW.trod_slice hu hf with ⟨hcs, _⟩ | ⟨x, len, cap, elems, rest, m, _, hcs, _, hb, hl, hm, hlen, he, _, _⟩
  · exact ⟨_, [], hcs, .inl ⟨rfl, rfl, none, 0, rfl⟩, fun a n c h => by cases h; exact Nat.le_refl _, by simp⟩
  · have key : ∀ i, i < len → ∃ y : α, good y ∧ W.cells? b0 (x.add (i * (sz + 1))) (sz + 1) = some (f y) := by
      intro i hi
      have h1 := he i hi
      rw [List.getElem?_eq_getElem (by omega), hz] at h1
      obtain ⟨cs, hcs, hy⟩ := Option.bind_eq_some_iff.1 h1
      obtain ⟨y, rfl, hg⟩ := hel _ cs _ hy
      exact ⟨y, hg, hcs⟩
    have build : ∀ k, k ≤ len → ∃ l : List α, l.length = k ∧ (∀ y ∈ l, good y) ∧ ∀ i (hi : i < k) y, l[i]? = some y → W.cells? b0 (x.add (i * (sz + 1))) (sz + 1) = some (f y) := by
      intro k
      induction k with
      | zero => exact fun _ => ⟨[], rfl, by simp, fun i hi => by omega⟩
      | succ k ih =>
        intro hk
        obtain ⟨l, h1, h2, h3⟩ := ih (by omega)
        obtain ⟨y, hg, hy⟩ := key k (by omega)
        refine ⟨l ++ [y], by simp [h1], fun z hz => ?_, fun i hi z hz => ?_⟩
        · rcases List.mem_append.1 hz with h4 | h4
          · exact h2 z h4
          · simp only [List.mem_singleton] at h4; subst h4; exact hg
        · by_cases hik : i = k
          · subst hik
            rw [List.getElem?_append_right (by omega), h1, Nat.sub_self] at hz
            simp only [List.getElem?_cons_zero, Option.some.injEq] at hz
            subst hz
            exact hy
          · rw [List.getElem?_append_left (by omega)] at hz
            exact h3 i (by omega) z hz
    obtain ⟨l, hll, hgood, hcell⟩ := build len (Nat.le_refl _)
    refine ⟨_, l, hcs, ?_, fun a n c h => by cases h; exact hl, hgood⟩
    rw [← List.flatMap_def, hll]
    have hfl : ∀ l : List α, (l.flatMap f).length = l.length * (sz + 1) := fun l => by
      induction l with
      | nil => simp
      | cons y l ih => rw [List.flatMap_cons, List.length_append, hsz, ih, List.length_cons, Nat.add_mul, Nat.one_mul, Nat.add_comm]
    by_cases h0 : len = 0
    · subst h0
      have : l = [] := List.eq_nil_of_length_eq_zero hll
      subst this
      exact .inl ⟨rfl, rfl, some x, cap, rfl⟩
    · obtain ⟨b, off, spot⟩ := x
      have hspot : spot = none := by
        have hc0 := hcell 0 (by omega) (l[0]'(by omega)) (by simp)
        have := (World.cells?_some hc0).2.2 0 (by omega)
        rw [List.getElem?_eq_getElem (by rw [hsz]; omega)] at this
        simp only [Nat.zero_mul] at this
        simpa [Addr.add] using World.cell?_spot this
      subst hspot
      refine .inr ⟨b, off, cap, rfl, by rw [hfl, hll], fun j u hj => ?_⟩
      have hjl : j < len * (sz + 1) := by
        have := (List.getElem?_eq_some_iff.1 hj).1
        rwa [hfl, hll] at this
      have hi : j / (sz + 1) < len := by rw [Nat.div_lt_iff_lt_mul (by omega)]; exact hjl
      have hsplit : ∀ (l : List α) (j : Nat) u, (l.flatMap f)[j]? = some u → ∃ y, l[j / (sz + 1)]? = some y ∧ (f y)[j % (sz + 1)]? = some u := fun l => by
        induction l with
        | nil => intro j u h; simp at h
        | cons y l ih =>
          intro j u h
          rw [List.flatMap_cons] at h
          by_cases hjs : j < sz + 1
          · rw [List.getElem?_append_left (by rw [hsz]; exact hjs)] at h
            rw [Nat.div_eq_of_lt hjs, Nat.mod_eq_of_lt hjs]
            exact ⟨y, rfl, h⟩
          · rw [List.getElem?_append_right (by rw [hsz]; omega), hsz] at h
            obtain ⟨z, h5, h6⟩ := ih _ u h
            refine ⟨z, ?_, ?_⟩
            · rw [Nat.div_eq_sub_div (by omega) (by omega)]
              exact h5
            · rw [Nat.mod_eq_sub_mod (by omega)]
              exact h6
      obtain ⟨y, hy, hu'⟩ := hsplit l j u hj
      have hc := (World.cells?_some (hcell _ hi y hy)).2.2 (j % (sz + 1)) (Nat.mod_lt _ (by omega))
      rw [hu'] at hc
      rw [add_add, add_at] at hc
      have hdm := Nat.div_add_mod j (sz + 1)
      rw [Nat.mul_comm] at hdm
      rw [hdm] at hc
      exact hc
end

def HdB (x : Hd) : Prop := Byt (l32 x.2.1) ∧ Byt (l32 x.2.2)
def SgB (x : Sg) : Prop := HdB x.1 ∧ Byt (l32 x.2)
def PfB (x : Pf) : Prop := (∀ f ∈ x.sib, Byt (l32 f)) ∧ Byt (l32 x.path) ∧ Byt (l32 x.val)
def RpB (x : Rp) : Prop := PfB x.pf ∧ SgB x.head
theorem trod_hd {H : Type} {enc : TypeId × Value → H} {W : World} {b0 : Nat} {sp : Nat → Bool} {hd : Bool} {m : Nat} {cs : List Value} {y : DataW H × List MemPlace} (hf : DataW.trod enc Tryd.prog W b0 sp hd m 30 cs = some y) :
    ∃ (x : Hd), cs = hdM x ∧ HdB x := by
  obtain ⟨xs, m, rfl, hx, hl, hxl, hi⟩ := DataW.trod_struct Tryd.underlying30 hf
  have z0 : Tryd.prog.cellsOf 3 = 1 := by kernel_rfl
  have z1 : Tryd.prog.cellsOf 26 = 32 := by kernel_rfl
  have z2 : Tryd.prog.cellsOf 26 = 32 := by kernel_rfl
  have zz : Tryd.prog.cellsOf 30 = 65 := by kernel_rfl
  have hxl2 : xs.length = 3 := hxl
  have h0 := hi 0 _ rfl
  rw [List.getElem?_eq_getElem (by omega)] at h0
  have h1 := hi 1 _ rfl
  rw [List.getElem?_eq_getElem (by omega)] at h1
  have h2 := hi 2 _ rfl
  rw [List.getElem?_eq_getElem (by omega)] at h2
  obtain ⟨p0, e0, _, _⟩ := DataW.trod_int Tryd.underlying3 h0
  obtain ⟨p1, e1, t1⟩ := trod_l32 Tryd.underlying26 Tryd.underlying5 ⟨by kernel_rfl, by kernel_rfl⟩ h1
  obtain ⟨p2, e2, t2⟩ := trod_l32 Tryd.underlying26 Tryd.underlying5 ⟨by kernel_rfl, by kernel_rfl⟩ h2
  refine ⟨(p0, p1, p2), ?_, ⟨t1, t2⟩⟩
  rw [zz] at hl
  have c100 : cs.drop 0 = [.int .i64 p0] ++ cs.drop 1 := cutS (off := 0) (n := 1) (by have h : (cs.drop 0).take (Tryd.prog.cellsOf 3) = [.int .i64 p0] := e0; rw [z0] at h; exact h)
  have c101 : cs.drop 1 = dg (l32 p1) ++ cs.drop 33 := cutS (off := 1) (n := 32) (by have h : (cs.drop 1).take (Tryd.prog.cellsOf 26) = dg (l32 p1) := e1; rw [z1] at h; exact h)
  have c102 : cs.drop 33 = dg (l32 p2) ++ cs.drop 65 := cutS (off := 33) (n := 32) (by have h : (cs.drop 33).take (Tryd.prog.cellsOf 26) = dg (l32 p2) := e2; rw [z2] at h; exact h)
  have c103 : cs.drop 65 = [] := List.drop_eq_nil_of_le (by omega)
  have hh : cs = [.int .i64 p0] ++ (dg (l32 p1) ++ (dg (l32 p2) ++ [])) := (c100.trans (congrArg (_ ++ ·) (c101.trans (congrArg (_ ++ ·) (c102.trans (congrArg (_ ++ ·) c103))))))
  exact hh.trans (by kernel_rfl)
theorem open_hd {H : Type} {enc : TypeId × Value → H} {W : World} {b0 : Nat} {sp : Nat → Bool} {hd : Bool} {base : Nat} {v : Value} {d : DataW H} {q : List MemPlace}
    (hok : Value.okWide Tryd.prog W .any base 30 v) (h : DataW.Trod enc Tryd.prog W b0 sp hd 30 v d q) :
    ∃ (x : Hd), v = .agg (hdM x).toArray ∧ HdB x := by
  unfold Value.okWide at hok
  rw [Tryd.underlying30] at hok
  obtain ⟨cs, rfl, hcs, _⟩ := hok
  obtain ⟨fuel, hf⟩ := h
  obtain ⟨x, hx, h1⟩ := trod_hd hf
  refine ⟨x, ?_, h1⟩
  congr 1
  apply Array.ext'
  exact hx
theorem trod_sg {H : Type} {enc : TypeId × Value → H} {W : World} {b0 : Nat} {sp : Nat → Bool} {hd : Bool} {m : Nat} {cs : List Value} {y : DataW H × List MemPlace} (hf : DataW.trod enc Tryd.prog W b0 sp hd m 32 cs = some y) :
    ∃ (x : Sg), cs = sgM x ∧ SgB x := by
  obtain ⟨xs, m, rfl, hx, hl, hxl, hi⟩ := DataW.trod_struct Tryd.underlying32 hf
  have z0 : Tryd.prog.cellsOf 30 = 65 := by kernel_rfl
  have z1 : Tryd.prog.cellsOf 26 = 32 := by kernel_rfl
  have zz : Tryd.prog.cellsOf 32 = 97 := by kernel_rfl
  have hxl2 : xs.length = 2 := hxl
  have h0 := hi 0 _ rfl
  rw [List.getElem?_eq_getElem (by omega)] at h0
  have h1 := hi 1 _ rfl
  rw [List.getElem?_eq_getElem (by omega)] at h1
  obtain ⟨p0, e0, t0⟩ := trod_hd h0
  obtain ⟨p1, e1, t1⟩ := trod_l32 Tryd.underlying26 Tryd.underlying5 ⟨by kernel_rfl, by kernel_rfl⟩ h1
  refine ⟨(p0, p1), ?_, ⟨t0, t1⟩⟩
  rw [zz] at hl
  have c100 : cs.drop 0 = hdM p0  ++ cs.drop 65 := cutS (off := 0) (n := 65) (by have h : (cs.drop 0).take (Tryd.prog.cellsOf 30) = hdM p0  := e0; rw [z0] at h; exact h)
  have c101 : cs.drop 65 = dg (l32 p1) ++ cs.drop 97 := cutS (off := 65) (n := 32) (by have h : (cs.drop 65).take (Tryd.prog.cellsOf 26) = dg (l32 p1) := e1; rw [z1] at h; exact h)
  have c102 : cs.drop 97 = [] := List.drop_eq_nil_of_le (by omega)
  have hh : cs = hdM p0  ++ (dg (l32 p1) ++ []) := (c100.trans (congrArg (_ ++ ·) (c101.trans (congrArg (_ ++ ·) c102))))
  exact hh.trans (by kernel_rfl)
theorem open_sg {H : Type} {enc : TypeId × Value → H} {W : World} {b0 : Nat} {sp : Nat → Bool} {hd : Bool} {base : Nat} {v : Value} {d : DataW H} {q : List MemPlace}
    (hok : Value.okWide Tryd.prog W .any base 32 v) (h : DataW.Trod enc Tryd.prog W b0 sp hd 32 v d q) :
    ∃ (x : Sg), v = .agg (sgM x).toArray ∧ SgB x := by
  unfold Value.okWide at hok
  rw [Tryd.underlying32] at hok
  obtain ⟨cs, rfl, hcs, _⟩ := hok
  obtain ⟨fuel, hf⟩ := h
  obtain ⟨x, hx, h1⟩ := trod_sg hf
  refine ⟨x, ?_, h1⟩
  congr 1
  apply Array.ext'
  exact hx
theorem trod_cmd {H : Type} {enc : TypeId × Value → H} {W : World} {b0 : Nat} {sp : Nat → Bool} {hd : Bool} {m : Nat} {cs : List Value} {y : DataW H × List MemPlace} (hf : DataW.trod enc Tryd.prog W b0 sp hd m 43 cs = some y) :
    ∃ (x : Cmd), cs = cmdM x ∧ True := by
  obtain ⟨xs, m, rfl, hx, hl, hxl, hi⟩ := DataW.trod_struct Tryd.underlying43 hf
  have z0 : Tryd.prog.cellsOf 41 = 1 := by kernel_rfl
  have z1 : Tryd.prog.cellsOf 3 = 1 := by kernel_rfl
  have z2 : Tryd.prog.cellsOf 3 = 1 := by kernel_rfl
  have z3 : Tryd.prog.cellsOf 9 = 1 := by kernel_rfl
  have z4 : Tryd.prog.cellsOf 9 = 1 := by kernel_rfl
  have z5 : Tryd.prog.cellsOf 3 = 1 := by kernel_rfl
  have z6 : Tryd.prog.cellsOf 26 = 32 := by kernel_rfl
  have zz : Tryd.prog.cellsOf 43 = 38 := by kernel_rfl
  have hxl2 : xs.length = 7 := hxl
  have h0 := hi 0 _ rfl
  rw [List.getElem?_eq_getElem (by omega)] at h0
  have h1 := hi 1 _ rfl
  rw [List.getElem?_eq_getElem (by omega)] at h1
  have h2 := hi 2 _ rfl
  rw [List.getElem?_eq_getElem (by omega)] at h2
  have h3 := hi 3 _ rfl
  rw [List.getElem?_eq_getElem (by omega)] at h3
  have h4 := hi 4 _ rfl
  rw [List.getElem?_eq_getElem (by omega)] at h4
  have h5 := hi 5 _ rfl
  rw [List.getElem?_eq_getElem (by omega)] at h5
  have h6 := hi 6 _ rfl
  rw [List.getElem?_eq_getElem (by omega)] at h6
  obtain ⟨p0, e0, _, _⟩ := DataW.trod_int Tryd.underlying41 h0
  obtain ⟨p1, e1, _, _⟩ := DataW.trod_int Tryd.underlying3 h1
  obtain ⟨p2, e2, _, _⟩ := DataW.trod_int Tryd.underlying3 h2
  obtain ⟨p3, e3, _⟩ := DataW.trod_string Tryd.underlying9 h3
  obtain ⟨p4, e4, _⟩ := DataW.trod_string Tryd.underlying9 h4
  obtain ⟨p5, e5, _, _⟩ := DataW.trod_int Tryd.underlying3 h5
  obtain ⟨p6, e6, t6⟩ := trod_l32 Tryd.underlying26 Tryd.underlying5 ⟨by kernel_rfl, by kernel_rfl⟩ h6
  refine ⟨(p0, p1, p2, p3, p4, p5, p6), ?_, trivial⟩
  rw [zz] at hl
  have c100 : cs.drop 0 = [.int .i64 p0] ++ cs.drop 1 := cutS (off := 0) (n := 1) (by have h : (cs.drop 0).take (Tryd.prog.cellsOf 41) = [.int .i64 p0] := e0; rw [z0] at h; exact h)
  have c101 : cs.drop 1 = [.int .i64 p1] ++ cs.drop 2 := cutS (off := 1) (n := 1) (by have h : (cs.drop 1).take (Tryd.prog.cellsOf 3) = [.int .i64 p1] := e1; rw [z1] at h; exact h)
  have c102 : cs.drop 2 = [.int .i64 p2] ++ cs.drop 3 := cutS (off := 2) (n := 1) (by have h : (cs.drop 2).take (Tryd.prog.cellsOf 3) = [.int .i64 p2] := e2; rw [z2] at h; exact h)
  have c103 : cs.drop 3 = [.string p3] ++ cs.drop 4 := cutS (off := 3) (n := 1) (by have h : (cs.drop 3).take (Tryd.prog.cellsOf 9) = [.string p3] := e3; rw [z3] at h; exact h)
  have c104 : cs.drop 4 = [.string p4] ++ cs.drop 5 := cutS (off := 4) (n := 1) (by have h : (cs.drop 4).take (Tryd.prog.cellsOf 9) = [.string p4] := e4; rw [z4] at h; exact h)
  have c105 : cs.drop 5 = [.int .i64 p5] ++ cs.drop 6 := cutS (off := 5) (n := 1) (by have h : (cs.drop 5).take (Tryd.prog.cellsOf 3) = [.int .i64 p5] := e5; rw [z5] at h; exact h)
  have c106 : cs.drop 6 = dg (l32 p6) ++ cs.drop 38 := cutS (off := 6) (n := 32) (by have h : (cs.drop 6).take (Tryd.prog.cellsOf 26) = dg (l32 p6) := e6; rw [z6] at h; exact h)
  have c107 : cs.drop 38 = [] := List.drop_eq_nil_of_le (by omega)
  have hh : cs = [.int .i64 p0] ++ ([.int .i64 p1] ++ ([.int .i64 p2] ++ ([.string p3] ++ ([.string p4] ++ ([.int .i64 p5] ++ (dg (l32 p6) ++ [])))))) := (c100.trans (congrArg (_ ++ ·) (c101.trans (congrArg (_ ++ ·) (c102.trans (congrArg (_ ++ ·) (c103.trans (congrArg (_ ++ ·) (c104.trans (congrArg (_ ++ ·) (c105.trans (congrArg (_ ++ ·) (c106.trans (congrArg (_ ++ ·) c107))))))))))))))
  exact hh.trans (by kernel_rfl)
theorem open_cmd {H : Type} {enc : TypeId × Value → H} {W : World} {b0 : Nat} {sp : Nat → Bool} {hd : Bool} {base : Nat} {v : Value} {d : DataW H} {q : List MemPlace}
    (hok : Value.okWide Tryd.prog W .any base 43 v) (h : DataW.Trod enc Tryd.prog W b0 sp hd 43 v d q) :
    ∃ (x : Cmd), v = .agg (cmdM x).toArray ∧ True := by
  unfold Value.okWide at hok
  rw [Tryd.underlying43] at hok
  obtain ⟨cs, rfl, hcs, _⟩ := hok
  obtain ⟨fuel, hf⟩ := h
  obtain ⟨x, hx, h1⟩ := trod_cmd hf
  refine ⟨x, ?_, h1⟩
  congr 1
  apply Array.ext'
  exact hx
theorem trod_cl {H : Type} {enc : TypeId × Value → H} {W : World} {b0 : Nat} {sp : Nat → Bool} {hd : Bool} {m : Nat} {cs : List Value} {y : DataW H × List MemPlace} (hf : DataW.trod enc Tryd.prog W b0 sp hd m 40 cs = some y) :
    ∃ (x : Cl) (a b : Sl), cs = clM x a b ∧ FA W (clF x a b) := by
  obtain ⟨xs, m, rfl, hx, hl, hxl, hi⟩ := DataW.trod_struct Tryd.underlying40 hf
  have z0 : Tryd.prog.cellsOf 38 = 1 := by kernel_rfl
  have z1 : Tryd.prog.cellsOf 38 = 1 := by kernel_rfl
  have zz : Tryd.prog.cellsOf 40 = 2 := by kernel_rfl
  have hxl2 : xs.length = 2 := hxl
  have h0 := hi 0 _ rfl
  rw [List.getElem?_eq_getElem (by omega)] at h0
  have h1 := hi 1 _ rfl
  rw [List.getElem?_eq_getElem (by omega)] at h1
  obtain ⟨v0, p0, e0, s0, _⟩ := trod_nums Tryd.underlying38 Tryd.underlying3 (by kernel_rfl) h0
  obtain ⟨a0, c0, rfl⟩ := s0.form
  obtain ⟨v1, p1, e1, s1, _⟩ := trod_nums Tryd.underlying38 Tryd.underlying3 (by kernel_rfl) h1
  obtain ⟨a1, c1, rfl⟩ := s1.form
  refine ⟨(p0, p1), (a0, c0), (a1, c1), ?_, .and (.slc s0) (.slc s1)⟩
  rw [zz] at hl
  have c100 : cs.drop 0 = [.slice a0 p0.length c0] ++ cs.drop 1 := cutS (off := 0) (n := 1) (by have h : (cs.drop 0).take (Tryd.prog.cellsOf 38) = [.slice a0 p0.length c0] := e0; rw [z0] at h; exact h)
  have c101 : cs.drop 1 = [.slice a1 p1.length c1] ++ cs.drop 2 := cutS (off := 1) (n := 1) (by have h : (cs.drop 1).take (Tryd.prog.cellsOf 38) = [.slice a1 p1.length c1] := e1; rw [z1] at h; exact h)
  have c102 : cs.drop 2 = [] := List.drop_eq_nil_of_le (by omega)
  have hh : cs = [.slice a0 p0.length c0] ++ ([.slice a1 p1.length c1] ++ []) := (c100.trans (congrArg (_ ++ ·) (c101.trans (congrArg (_ ++ ·) c102))))
  exact hh.trans (by kernel_rfl)
theorem open_cl {H : Type} {enc : TypeId × Value → H} {W : World} {b0 : Nat} {sp : Nat → Bool} {hd : Bool} {base : Nat} {v : Value} {d : DataW H} {q : List MemPlace}
    (hok : Value.okWide Tryd.prog W .any base 40 v) (h : DataW.Trod enc Tryd.prog W b0 sp hd 40 v d q) :
    ∃ (x : Cl) (a b : Sl), v = .agg (clM x a b).toArray ∧ FA W (clF x a b) := by
  unfold Value.okWide at hok
  rw [Tryd.underlying40] at hok
  obtain ⟨cs, rfl, hcs, _⟩ := hok
  obtain ⟨fuel, hf⟩ := h
  obtain ⟨x, a, b, hx, h1⟩ := trod_cl hf
  refine ⟨x, a, b, ?_, h1⟩
  congr 1
  apply Array.ext'
  exact hx
theorem trod_en {H : Type} {enc : TypeId × Value → H} {W : World} {b0 : Nat} {sp : Nat → Bool} {hd : Bool} {m : Nat} {cs : List Value} {y : DataW H × List MemPlace} (hf : DataW.trod enc Tryd.prog W b0 sp hd m 138 cs = some y) :
    ∃ (x : EnV), cs = enW x ∧ FA W (enF x) := by
  obtain ⟨xs, m, rfl, hx, hl, hxl, hi⟩ := DataW.trod_struct Tryd.underlying138 hf
  have z0 : Tryd.prog.cellsOf 3 = 1 := by kernel_rfl
  have z1 : Tryd.prog.cellsOf 3 = 1 := by kernel_rfl
  have z2 : Tryd.prog.cellsOf 136 = 1 := by kernel_rfl
  have z3 : Tryd.prog.cellsOf 43 = 38 := by kernel_rfl
  have z4 : Tryd.prog.cellsOf 40 = 2 := by kernel_rfl
  have zz : Tryd.prog.cellsOf 138 = 43 := by kernel_rfl
  have hxl2 : xs.length = 5 := hxl
  have h0 := hi 0 _ rfl
  rw [List.getElem?_eq_getElem (by omega)] at h0
  have h1 := hi 1 _ rfl
  rw [List.getElem?_eq_getElem (by omega)] at h1
  have h2 := hi 2 _ rfl
  rw [List.getElem?_eq_getElem (by omega)] at h2
  have h3 := hi 3 _ rfl
  rw [List.getElem?_eq_getElem (by omega)] at h3
  have h4 := hi 4 _ rfl
  rw [List.getElem?_eq_getElem (by omega)] at h4
  obtain ⟨p0, e0, _, _⟩ := DataW.trod_int Tryd.underlying3 h0
  obtain ⟨p1, e1, _, _⟩ := DataW.trod_int Tryd.underlying3 h1
  obtain ⟨p2, e2, _, _⟩ := DataW.trod_int Tryd.underlying136 h2
  obtain ⟨p3, e3, t3⟩ := trod_cmd h3
  obtain ⟨p4, a4, b4, e4, t4⟩ := trod_cl h4
  refine ⟨((p0, p1, p2, p3, p4), a4, b4), ?_, t4⟩
  rw [zz] at hl
  have c100 : cs.drop 0 = [.int .i64 p0] ++ cs.drop 1 := cutS (off := 0) (n := 1) (by have h : (cs.drop 0).take (Tryd.prog.cellsOf 3) = [.int .i64 p0] := e0; rw [z0] at h; exact h)
  have c101 : cs.drop 1 = [.int .i64 p1] ++ cs.drop 2 := cutS (off := 1) (n := 1) (by have h : (cs.drop 1).take (Tryd.prog.cellsOf 3) = [.int .i64 p1] := e1; rw [z1] at h; exact h)
  have c102 : cs.drop 2 = [.int .i64 p2] ++ cs.drop 3 := cutS (off := 2) (n := 1) (by have h : (cs.drop 2).take (Tryd.prog.cellsOf 136) = [.int .i64 p2] := e2; rw [z2] at h; exact h)
  have c103 : cs.drop 3 = cmdM p3  ++ cs.drop 41 := cutS (off := 3) (n := 38) (by have h : (cs.drop 3).take (Tryd.prog.cellsOf 43) = cmdM p3  := e3; rw [z3] at h; exact h)
  have c104 : cs.drop 41 = clM p4 a4 b4 ++ cs.drop 43 := cutS (off := 41) (n := 2) (by have h : (cs.drop 41).take (Tryd.prog.cellsOf 40) = clM p4 a4 b4 := e4; rw [z4] at h; exact h)
  have c105 : cs.drop 43 = [] := List.drop_eq_nil_of_le (by omega)
  have hh : cs = [.int .i64 p0] ++ ([.int .i64 p1] ++ ([.int .i64 p2] ++ (cmdM p3  ++ (clM p4 a4 b4 ++ [])))) := (c100.trans (congrArg (_ ++ ·) (c101.trans (congrArg (_ ++ ·) (c102.trans (congrArg (_ ++ ·) (c103.trans (congrArg (_ ++ ·) (c104.trans (congrArg (_ ++ ·) c105))))))))))
  exact hh.trans (by kernel_rfl)
theorem open_en {H : Type} {enc : TypeId × Value → H} {W : World} {b0 : Nat} {sp : Nat → Bool} {hd : Bool} {base : Nat} {v : Value} {d : DataW H} {q : List MemPlace}
    (hok : Value.okWide Tryd.prog W .any base 138 v) (h : DataW.Trod enc Tryd.prog W b0 sp hd 138 v d q) :
    ∃ (x : EnV), v = .agg (enW x).toArray ∧ FA W (enF x) := by
  unfold Value.okWide at hok
  rw [Tryd.underlying138] at hok
  obtain ⟨cs, rfl, hcs, _⟩ := hok
  obtain ⟨fuel, hf⟩ := h
  obtain ⟨x, hx, h1⟩ := trod_en hf
  refine ⟨x, ?_, h1⟩
  congr 1
  apply Array.ext'
  exact hx
theorem trod_vr {H : Type} {enc : TypeId × Value → H} {W : World} {b0 : Nat} {sp : Nat → Bool} {hd : Bool} {m : Nat} {cs : List Value} {y : DataW H × List MemPlace} (hf : DataW.trod enc Tryd.prog W b0 sp hd m 79 cs = some y) :
    ∃ (x : Vr), cs = vrM x ∧ True := by
  obtain ⟨xs, m, rfl, hx, hl, hxl, hi⟩ := DataW.trod_struct Tryd.underlying79 hf
  have z0 : Tryd.prog.cellsOf 3 = 1 := by kernel_rfl
  have z1 : Tryd.prog.cellsOf 77 = 1 := by kernel_rfl
  have z2 : Tryd.prog.cellsOf 9 = 1 := by kernel_rfl
  have zz : Tryd.prog.cellsOf 79 = 3 := by kernel_rfl
  have hxl2 : xs.length = 3 := hxl
  have h0 := hi 0 _ rfl
  rw [List.getElem?_eq_getElem (by omega)] at h0
  have h1 := hi 1 _ rfl
  rw [List.getElem?_eq_getElem (by omega)] at h1
  have h2 := hi 2 _ rfl
  rw [List.getElem?_eq_getElem (by omega)] at h2
  obtain ⟨p0, e0, _, _⟩ := DataW.trod_int Tryd.underlying3 h0
  obtain ⟨p1, e1, _, _⟩ := DataW.trod_int Tryd.underlying77 h1
  obtain ⟨p2, e2, _⟩ := DataW.trod_string Tryd.underlying9 h2
  refine ⟨(p0, p1, p2), ?_, trivial⟩
  rw [zz] at hl
  have c100 : cs.drop 0 = [.int .i64 p0] ++ cs.drop 1 := cutS (off := 0) (n := 1) (by have h : (cs.drop 0).take (Tryd.prog.cellsOf 3) = [.int .i64 p0] := e0; rw [z0] at h; exact h)
  have c101 : cs.drop 1 = [.int .i64 p1] ++ cs.drop 2 := cutS (off := 1) (n := 1) (by have h : (cs.drop 1).take (Tryd.prog.cellsOf 77) = [.int .i64 p1] := e1; rw [z1] at h; exact h)
  have c102 : cs.drop 2 = [.string p2] ++ cs.drop 3 := cutS (off := 2) (n := 1) (by have h : (cs.drop 2).take (Tryd.prog.cellsOf 9) = [.string p2] := e2; rw [z2] at h; exact h)
  have c103 : cs.drop 3 = [] := List.drop_eq_nil_of_le (by omega)
  have hh : cs = [.int .i64 p0] ++ ([.int .i64 p1] ++ ([.string p2] ++ [])) := (c100.trans (congrArg (_ ++ ·) (c101.trans (congrArg (_ ++ ·) (c102.trans (congrArg (_ ++ ·) c103))))))
  exact hh.trans (by kernel_rfl)
theorem open_vr {H : Type} {enc : TypeId × Value → H} {W : World} {b0 : Nat} {sp : Nat → Bool} {hd : Bool} {base : Nat} {v : Value} {d : DataW H} {q : List MemPlace}
    (hok : Value.okWide Tryd.prog W .any base 79 v) (h : DataW.Trod enc Tryd.prog W b0 sp hd 79 v d q) :
    ∃ (x : Vr), v = .agg (vrM x).toArray ∧ True := by
  unfold Value.okWide at hok
  rw [Tryd.underlying79] at hok
  obtain ⟨cs, rfl, hcs, _⟩ := hok
  obtain ⟨fuel, hf⟩ := h
  obtain ⟨x, hx, h1⟩ := trod_vr hf
  refine ⟨x, ?_, h1⟩
  congr 1
  apply Array.ext'
  exact hx
theorem trod_pf {H : Type} {enc : TypeId × Value → H} {W : World} {b0 : Nat} {sp : Nat → Bool} {hd : Bool} {m : Nat} {cs : List Value} {y : DataW H × List MemPlace} (hf : DataW.trod enc Tryd.prog W b0 sp hd m 28 cs = some y) :
    ∃ (x : Pf) (s : Sl), cs = pfM x s ∧ FA W (sbF x.sib s) ∧ PfB x := by
  obtain ⟨xs, m, rfl, hx, hl, hxl, hi⟩ := DataW.trod_struct Tryd.underlying28 hf
  have z0 : Tryd.prog.cellsOf 24 = 1 := by kernel_rfl
  have z1 : Tryd.prog.cellsOf 4 = 1 := by kernel_rfl
  have z2 : Tryd.prog.cellsOf 26 = 32 := by kernel_rfl
  have z3 : Tryd.prog.cellsOf 26 = 32 := by kernel_rfl
  have zz : Tryd.prog.cellsOf 28 = 66 := by kernel_rfl
  have hxl2 : xs.length = 4 := hxl
  have h0 := hi 0 _ rfl
  rw [List.getElem?_eq_getElem (by omega)] at h0
  have h1 := hi 1 _ rfl
  rw [List.getElem?_eq_getElem (by omega)] at h1
  have h2 := hi 2 _ rfl
  rw [List.getElem?_eq_getElem (by omega)] at h2
  have h3 := hi 3 _ rfl
  rw [List.getElem?_eq_getElem (by omega)] at h3
  obtain ⟨v0, p0, e0, s0, q0, g0⟩ := trod_rows (f := dgM) (sz := 31) (good := (fun f => Byt (l32 f))) (fun _ => rfl) (by kernel_rfl) Tryd.underlying24 (fun m cs y hy => trod_l32 Tryd.underlying26 Tryd.underlying5 ⟨by kernel_rfl, by kernel_rfl⟩ hy) h0
  obtain ⟨a0, c0, rfl⟩ := s0.form
  obtain ⟨p1, e1, _⟩ := DataW.trod_bool Tryd.underlying4 h1
  obtain ⟨p2, e2, t2⟩ := trod_l32 Tryd.underlying26 Tryd.underlying5 ⟨by kernel_rfl, by kernel_rfl⟩ h2
  obtain ⟨p3, e3, t3⟩ := trod_l32 Tryd.underlying26 Tryd.underlying5 ⟨by kernel_rfl, by kernel_rfl⟩ h3
  refine ⟨⟨p0, p1, p2, p3⟩, (a0, c0), ?_, ⟨.slc s0, g0, t2, t3⟩⟩
  rw [zz] at hl
  have c100 : cs.drop 0 = [.slice a0 p0.length c0] ++ cs.drop 1 := cutS (off := 0) (n := 1) (by have h : (cs.drop 0).take (Tryd.prog.cellsOf 24) = [.slice a0 p0.length c0] := e0; rw [z0] at h; exact h)
  have c101 : cs.drop 1 = [.bool p1] ++ cs.drop 2 := cutS (off := 1) (n := 1) (by have h : (cs.drop 1).take (Tryd.prog.cellsOf 4) = [.bool p1] := e1; rw [z1] at h; exact h)
  have c102 : cs.drop 2 = dg (l32 p2) ++ cs.drop 34 := cutS (off := 2) (n := 32) (by have h : (cs.drop 2).take (Tryd.prog.cellsOf 26) = dg (l32 p2) := e2; rw [z2] at h; exact h)
  have c103 : cs.drop 34 = dg (l32 p3) ++ cs.drop 66 := cutS (off := 34) (n := 32) (by have h : (cs.drop 34).take (Tryd.prog.cellsOf 26) = dg (l32 p3) := e3; rw [z3] at h; exact h)
  have c104 : cs.drop 66 = [] := List.drop_eq_nil_of_le (by omega)
  have hh : cs = [.slice a0 p0.length c0] ++ ([.bool p1] ++ (dg (l32 p2) ++ (dg (l32 p3) ++ []))) := (c100.trans (congrArg (_ ++ ·) (c101.trans (congrArg (_ ++ ·) (c102.trans (congrArg (_ ++ ·) (c103.trans (congrArg (_ ++ ·) c104))))))))
  exact hh.trans (by kernel_rfl)
theorem open_pf {H : Type} {enc : TypeId × Value → H} {W : World} {b0 : Nat} {sp : Nat → Bool} {hd : Bool} {base : Nat} {v : Value} {d : DataW H} {q : List MemPlace}
    (hok : Value.okWide Tryd.prog W .any base 28 v) (h : DataW.Trod enc Tryd.prog W b0 sp hd 28 v d q) :
    ∃ (x : Pf) (s : Sl), v = .agg (pfM x s).toArray ∧ FA W (sbF x.sib s) ∧ PfB x := by
  unfold Value.okWide at hok
  rw [Tryd.underlying28] at hok
  obtain ⟨cs, rfl, hcs, _⟩ := hok
  obtain ⟨fuel, hf⟩ := h
  obtain ⟨x, s, hx, h1⟩ := trod_pf hf
  refine ⟨x, s, ?_, h1⟩
  congr 1
  apply Array.ext'
  exact hx
theorem trod_rp {H : Type} {enc : TypeId × Value → H} {W : World} {b0 : Nat} {sp : Nat → Bool} {hd : Bool} {m : Nat} {cs : List Value} {y : DataW H × List MemPlace} (hf : DataW.trod enc Tryd.prog W b0 sp hd m 34 cs = some y) :
    ∃ (x : Rp) (u s : Sl), cs = rpM x u s ∧ FA W (rpF x u s) ∧ RpB x ∧ x.vers.length ≤ u.2 := by
  obtain ⟨xs, m, rfl, hx, hl, hxl, hi⟩ := DataW.trod_struct Tryd.underlying34 hf
  have z0 : Tryd.prog.cellsOf 22 = 1 := by kernel_rfl
  have z1 : Tryd.prog.cellsOf 3 = 1 := by kernel_rfl
  have z2 : Tryd.prog.cellsOf 3 = 1 := by kernel_rfl
  have z3 : Tryd.prog.cellsOf 3 = 1 := by kernel_rfl
  have z4 : Tryd.prog.cellsOf 3 = 1 := by kernel_rfl
  have z5 : Tryd.prog.cellsOf 23 = 1 := by kernel_rfl
  have z6 : Tryd.prog.cellsOf 28 = 66 := by kernel_rfl
  have z7 : Tryd.prog.cellsOf 32 = 97 := by kernel_rfl
  have zz : Tryd.prog.cellsOf 34 = 169 := by kernel_rfl
  have hxl2 : xs.length = 8 := hxl
  have h0 := hi 0 _ rfl
  rw [List.getElem?_eq_getElem (by omega)] at h0
  have h1 := hi 1 _ rfl
  rw [List.getElem?_eq_getElem (by omega)] at h1
  have h2 := hi 2 _ rfl
  rw [List.getElem?_eq_getElem (by omega)] at h2
  have h3 := hi 3 _ rfl
  rw [List.getElem?_eq_getElem (by omega)] at h3
  have h4 := hi 4 _ rfl
  rw [List.getElem?_eq_getElem (by omega)] at h4
  have h5 := hi 5 _ rfl
  rw [List.getElem?_eq_getElem (by omega)] at h5
  have h6 := hi 6 _ rfl
  rw [List.getElem?_eq_getElem (by omega)] at h6
  have h7 := hi 7 _ rfl
  rw [List.getElem?_eq_getElem (by omega)] at h7
  obtain ⟨p0, e0, _, _⟩ := DataW.trod_int Tryd.underlying22 h0
  obtain ⟨p1, e1, _, _⟩ := DataW.trod_int Tryd.underlying3 h1
  obtain ⟨p2, e2, _, _⟩ := DataW.trod_int Tryd.underlying3 h2
  obtain ⟨p3, e3, _, _⟩ := DataW.trod_int Tryd.underlying3 h3
  obtain ⟨p4, e4, _, _⟩ := DataW.trod_int Tryd.underlying3 h4
  obtain ⟨v5, p5, e5, s5, q5, g5⟩ := trod_rows (f := vrM) (sz := 2) (good := (fun _ => True)) (fun _ => rfl) (by kernel_rfl) Tryd.underlying23 (fun m cs y hy => trod_vr hy) h5
  obtain ⟨a5, c5, rfl⟩ := s5.form
  obtain ⟨p6, s6, e6, t6⟩ := trod_pf h6
  obtain ⟨p7, e7, t7⟩ := trod_sg h7
  refine ⟨⟨p0, p1, p2, p3, p4, p5, p6, p7⟩, (a5, c5), s6, ?_, ⟨.and (.slc s5) t6.1, ⟨t6.2, t7⟩, q5 _ _ _ rfl⟩⟩
  rw [zz] at hl
  have c100 : cs.drop 0 = [.int .i64 p0] ++ cs.drop 1 := cutS (off := 0) (n := 1) (by have h : (cs.drop 0).take (Tryd.prog.cellsOf 22) = [.int .i64 p0] := e0; rw [z0] at h; exact h)
  have c101 : cs.drop 1 = [.int .i64 p1] ++ cs.drop 2 := cutS (off := 1) (n := 1) (by have h : (cs.drop 1).take (Tryd.prog.cellsOf 3) = [.int .i64 p1] := e1; rw [z1] at h; exact h)
  have c102 : cs.drop 2 = [.int .i64 p2] ++ cs.drop 3 := cutS (off := 2) (n := 1) (by have h : (cs.drop 2).take (Tryd.prog.cellsOf 3) = [.int .i64 p2] := e2; rw [z2] at h; exact h)
  have c103 : cs.drop 3 = [.int .i64 p3] ++ cs.drop 4 := cutS (off := 3) (n := 1) (by have h : (cs.drop 3).take (Tryd.prog.cellsOf 3) = [.int .i64 p3] := e3; rw [z3] at h; exact h)
  have c104 : cs.drop 4 = [.int .i64 p4] ++ cs.drop 5 := cutS (off := 4) (n := 1) (by have h : (cs.drop 4).take (Tryd.prog.cellsOf 3) = [.int .i64 p4] := e4; rw [z4] at h; exact h)
  have c105 : cs.drop 5 = [.slice a5 p5.length c5] ++ cs.drop 6 := cutS (off := 5) (n := 1) (by have h : (cs.drop 5).take (Tryd.prog.cellsOf 23) = [.slice a5 p5.length c5] := e5; rw [z5] at h; exact h)
  have c106 : cs.drop 6 = pfM p6 s6 ++ cs.drop 72 := cutS (off := 6) (n := 66) (by have h : (cs.drop 6).take (Tryd.prog.cellsOf 28) = pfM p6 s6 := e6; rw [z6] at h; exact h)
  have c107 : cs.drop 72 = sgM p7  ++ cs.drop 169 := cutS (off := 72) (n := 97) (by have h : (cs.drop 72).take (Tryd.prog.cellsOf 32) = sgM p7  := e7; rw [z7] at h; exact h)
  have c108 : cs.drop 169 = [] := List.drop_eq_nil_of_le (by omega)
  have hh : cs = [.int .i64 p0] ++ ([.int .i64 p1] ++ ([.int .i64 p2] ++ ([.int .i64 p3] ++ ([.int .i64 p4] ++ ([.slice a5 p5.length c5] ++ (pfM p6 s6 ++ (sgM p7  ++ []))))))) := (c100.trans (congrArg (_ ++ ·) (c101.trans (congrArg (_ ++ ·) (c102.trans (congrArg (_ ++ ·) (c103.trans (congrArg (_ ++ ·) (c104.trans (congrArg (_ ++ ·) (c105.trans (congrArg (_ ++ ·) (c106.trans (congrArg (_ ++ ·) (c107.trans (congrArg (_ ++ ·) c108))))))))))))))))
  exact hh.trans (by kernel_rfl)
theorem open_rp {H : Type} {enc : TypeId × Value → H} {W : World} {b0 : Nat} {sp : Nat → Bool} {hd : Bool} {base : Nat} {v : Value} {d : DataW H} {q : List MemPlace}
    (hok : Value.okWide Tryd.prog W .any base 34 v) (h : DataW.Trod enc Tryd.prog W b0 sp hd 34 v d q) :
    ∃ (x : Rp) (u s : Sl), v = .agg (rpM x u s).toArray ∧ FA W (rpF x u s) ∧ RpB x ∧ x.vers.length ≤ u.2 := by
  unfold Value.okWide at hok
  rw [Tryd.underlying34] at hok
  obtain ⟨cs, rfl, hcs, _⟩ := hok
  obtain ⟨fuel, hf⟩ := h
  obtain ⟨x, u, s, hx, h1⟩ := trod_rp hf
  refine ⟨x, u, s, ?_, h1⟩
  congr 1
  apply Array.ext'
  exact hx
theorem trod_ms {H : Type} {enc : TypeId × Value → H} {W : World} {b0 : Nat} {sp : Nat → Bool} {hd : Bool} {m : Nat} {cs : List Value} {y : DataW H × List MemPlace} (hf : DataW.trod enc Tryd.prog W b0 sp hd m 46 cs = some y) :
    ∃ (x : Ms) (m : M5) (es : List EnV), cs = msM x m ∧ x.entries = es.map Prod.fst ∧ FA W (msF x m es) ∧ RpB x.reply := by
  obtain ⟨xs, m, rfl, hx, hl, hxl, hi⟩ := DataW.trod_struct Tryd.underlying46 hf
  have z0 : Tryd.prog.cellsOf 36 = 1 := by kernel_rfl
  have z1 : Tryd.prog.cellsOf 3 = 1 := by kernel_rfl
  have z2 : Tryd.prog.cellsOf 3 = 1 := by kernel_rfl
  have z3 : Tryd.prog.cellsOf 3 = 1 := by kernel_rfl
  have z4 : Tryd.prog.cellsOf 3 = 1 := by kernel_rfl
  have z5 : Tryd.prog.cellsOf 3 = 1 := by kernel_rfl
  have z6 : Tryd.prog.cellsOf 3 = 1 := by kernel_rfl
  have z7 : Tryd.prog.cellsOf 3 = 1 := by kernel_rfl
  have z8 : Tryd.prog.cellsOf 4 = 1 := by kernel_rfl
  have z9 : Tryd.prog.cellsOf 37 = 1 := by kernel_rfl
  have z10 : Tryd.prog.cellsOf 40 = 2 := by kernel_rfl
  have z11 : Tryd.prog.cellsOf 3 = 1 := by kernel_rfl
  have z12 : Tryd.prog.cellsOf 3 = 1 := by kernel_rfl
  have z13 : Tryd.prog.cellsOf 9 = 1 := by kernel_rfl
  have z14 : Tryd.prog.cellsOf 43 = 38 := by kernel_rfl
  have z15 : Tryd.prog.cellsOf 44 = 1 := by kernel_rfl
  have z16 : Tryd.prog.cellsOf 3 = 1 := by kernel_rfl
  have z17 : Tryd.prog.cellsOf 9 = 1 := by kernel_rfl
  have z18 : Tryd.prog.cellsOf 34 = 169 := by kernel_rfl
  have zz : Tryd.prog.cellsOf 46 = 225 := by kernel_rfl
  have hxl2 : xs.length = 19 := hxl
  have h0 := hi 0 _ rfl
  rw [List.getElem?_eq_getElem (by omega)] at h0
  have h1 := hi 1 _ rfl
  rw [List.getElem?_eq_getElem (by omega)] at h1
  have h2 := hi 2 _ rfl
  rw [List.getElem?_eq_getElem (by omega)] at h2
  have h3 := hi 3 _ rfl
  rw [List.getElem?_eq_getElem (by omega)] at h3
  have h4 := hi 4 _ rfl
  rw [List.getElem?_eq_getElem (by omega)] at h4
  have h5 := hi 5 _ rfl
  rw [List.getElem?_eq_getElem (by omega)] at h5
  have h6 := hi 6 _ rfl
  rw [List.getElem?_eq_getElem (by omega)] at h6
  have h7 := hi 7 _ rfl
  rw [List.getElem?_eq_getElem (by omega)] at h7
  have h8 := hi 8 _ rfl
  rw [List.getElem?_eq_getElem (by omega)] at h8
  have h9 := hi 9 _ rfl
  rw [List.getElem?_eq_getElem (by omega)] at h9
  have h10 := hi 10 _ rfl
  rw [List.getElem?_eq_getElem (by omega)] at h10
  have h11 := hi 11 _ rfl
  rw [List.getElem?_eq_getElem (by omega)] at h11
  have h12 := hi 12 _ rfl
  rw [List.getElem?_eq_getElem (by omega)] at h12
  have h13 := hi 13 _ rfl
  rw [List.getElem?_eq_getElem (by omega)] at h13
  have h14 := hi 14 _ rfl
  rw [List.getElem?_eq_getElem (by omega)] at h14
  have h15 := hi 15 _ rfl
  rw [List.getElem?_eq_getElem (by omega)] at h15
  have h16 := hi 16 _ rfl
  rw [List.getElem?_eq_getElem (by omega)] at h16
  have h17 := hi 17 _ rfl
  rw [List.getElem?_eq_getElem (by omega)] at h17
  have h18 := hi 18 _ rfl
  rw [List.getElem?_eq_getElem (by omega)] at h18
  obtain ⟨p0, e0, _, _⟩ := DataW.trod_int Tryd.underlying36 h0
  obtain ⟨p1, e1, _, _⟩ := DataW.trod_int Tryd.underlying3 h1
  obtain ⟨p2, e2, _, _⟩ := DataW.trod_int Tryd.underlying3 h2
  obtain ⟨p3, e3, _, _⟩ := DataW.trod_int Tryd.underlying3 h3
  obtain ⟨p4, e4, _, _⟩ := DataW.trod_int Tryd.underlying3 h4
  obtain ⟨p5, e5, _, _⟩ := DataW.trod_int Tryd.underlying3 h5
  obtain ⟨p6, e6, _, _⟩ := DataW.trod_int Tryd.underlying3 h6
  obtain ⟨p7, e7, _, _⟩ := DataW.trod_int Tryd.underlying3 h7
  obtain ⟨p8, e8, _⟩ := DataW.trod_bool Tryd.underlying4 h8
  obtain ⟨v9, p9, e9, s9, q9, g9⟩ := trod_rows (f := enW) (sz := 42) (good := (fun p => FA W (enF p))) (fun _ => rfl) (by kernel_rfl) Tryd.underlying37 (fun m cs y hy => trod_en hy) h9
  obtain ⟨a9, c9, rfl⟩ := s9.form
  obtain ⟨p10, a10, b10, e10, t10⟩ := trod_cl h10
  obtain ⟨p11, e11, _, _⟩ := DataW.trod_int Tryd.underlying3 h11
  obtain ⟨p12, e12, _, _⟩ := DataW.trod_int Tryd.underlying3 h12
  obtain ⟨p13, e13, _⟩ := DataW.trod_string Tryd.underlying9 h13
  obtain ⟨p14, e14, t14⟩ := trod_cmd h14
  obtain ⟨p15, e15, _, _⟩ := DataW.trod_int Tryd.underlying44 h15
  obtain ⟨p16, e16, _, _⟩ := DataW.trod_int Tryd.underlying3 h16
  obtain ⟨p17, e17, _⟩ := DataW.trod_string Tryd.underlying9 h17
  obtain ⟨p18, v18, s18, e18, t18⟩ := trod_rp h18
  refine ⟨⟨p0, p1, p2, p3, p4, p5, p6, p7, p8, p9.map Prod.fst, p10, p11, p12, p13, p14, p15, p16, p17, p18⟩, ⟨(a9, c9), a10, b10, v18, s18⟩, p9, ?_, ⟨rfl, .and (.and (.slc s9) (.all fun f hf => by obtain ⟨e, he, rfl⟩ := List.mem_map.1 hf; exact g9 e he)) (.and t10 t18.1), t18.2.1⟩⟩
  rw [zz] at hl
  have c100 : cs.drop 0 = [.int .i64 p0] ++ cs.drop 1 := cutS (off := 0) (n := 1) (by have h : (cs.drop 0).take (Tryd.prog.cellsOf 36) = [.int .i64 p0] := e0; rw [z0] at h; exact h)
  have c101 : cs.drop 1 = [.int .i64 p1] ++ cs.drop 2 := cutS (off := 1) (n := 1) (by have h : (cs.drop 1).take (Tryd.prog.cellsOf 3) = [.int .i64 p1] := e1; rw [z1] at h; exact h)
  have c102 : cs.drop 2 = [.int .i64 p2] ++ cs.drop 3 := cutS (off := 2) (n := 1) (by have h : (cs.drop 2).take (Tryd.prog.cellsOf 3) = [.int .i64 p2] := e2; rw [z2] at h; exact h)
  have c103 : cs.drop 3 = [.int .i64 p3] ++ cs.drop 4 := cutS (off := 3) (n := 1) (by have h : (cs.drop 3).take (Tryd.prog.cellsOf 3) = [.int .i64 p3] := e3; rw [z3] at h; exact h)
  have c104 : cs.drop 4 = [.int .i64 p4] ++ cs.drop 5 := cutS (off := 4) (n := 1) (by have h : (cs.drop 4).take (Tryd.prog.cellsOf 3) = [.int .i64 p4] := e4; rw [z4] at h; exact h)
  have c105 : cs.drop 5 = [.int .i64 p5] ++ cs.drop 6 := cutS (off := 5) (n := 1) (by have h : (cs.drop 5).take (Tryd.prog.cellsOf 3) = [.int .i64 p5] := e5; rw [z5] at h; exact h)
  have c106 : cs.drop 6 = [.int .i64 p6] ++ cs.drop 7 := cutS (off := 6) (n := 1) (by have h : (cs.drop 6).take (Tryd.prog.cellsOf 3) = [.int .i64 p6] := e6; rw [z6] at h; exact h)
  have c107 : cs.drop 7 = [.int .i64 p7] ++ cs.drop 8 := cutS (off := 7) (n := 1) (by have h : (cs.drop 7).take (Tryd.prog.cellsOf 3) = [.int .i64 p7] := e7; rw [z7] at h; exact h)
  have c108 : cs.drop 8 = [.bool p8] ++ cs.drop 9 := cutS (off := 8) (n := 1) (by have h : (cs.drop 8).take (Tryd.prog.cellsOf 4) = [.bool p8] := e8; rw [z8] at h; exact h)
  have c109 : cs.drop 9 = [.slice a9 p9.length c9] ++ cs.drop 10 := cutS (off := 9) (n := 1) (by have h : (cs.drop 9).take (Tryd.prog.cellsOf 37) = [.slice a9 p9.length c9] := e9; rw [z9] at h; exact h)
  have c110 : cs.drop 10 = clM p10 a10 b10 ++ cs.drop 12 := cutS (off := 10) (n := 2) (by have h : (cs.drop 10).take (Tryd.prog.cellsOf 40) = clM p10 a10 b10 := e10; rw [z10] at h; exact h)
  have c111 : cs.drop 12 = [.int .i64 p11] ++ cs.drop 13 := cutS (off := 12) (n := 1) (by have h : (cs.drop 12).take (Tryd.prog.cellsOf 3) = [.int .i64 p11] := e11; rw [z11] at h; exact h)
  have c112 : cs.drop 13 = [.int .i64 p12] ++ cs.drop 14 := cutS (off := 13) (n := 1) (by have h : (cs.drop 13).take (Tryd.prog.cellsOf 3) = [.int .i64 p12] := e12; rw [z12] at h; exact h)
  have c113 : cs.drop 14 = [.string p13] ++ cs.drop 15 := cutS (off := 14) (n := 1) (by have h : (cs.drop 14).take (Tryd.prog.cellsOf 9) = [.string p13] := e13; rw [z13] at h; exact h)
  have c114 : cs.drop 15 = cmdM p14  ++ cs.drop 53 := cutS (off := 15) (n := 38) (by have h : (cs.drop 15).take (Tryd.prog.cellsOf 43) = cmdM p14  := e14; rw [z14] at h; exact h)
  have c115 : cs.drop 53 = [.int .i64 p15] ++ cs.drop 54 := cutS (off := 53) (n := 1) (by have h : (cs.drop 53).take (Tryd.prog.cellsOf 44) = [.int .i64 p15] := e15; rw [z15] at h; exact h)
  have c116 : cs.drop 54 = [.int .i64 p16] ++ cs.drop 55 := cutS (off := 54) (n := 1) (by have h : (cs.drop 54).take (Tryd.prog.cellsOf 3) = [.int .i64 p16] := e16; rw [z16] at h; exact h)
  have c117 : cs.drop 55 = [.string p17] ++ cs.drop 56 := cutS (off := 55) (n := 1) (by have h : (cs.drop 55).take (Tryd.prog.cellsOf 9) = [.string p17] := e17; rw [z17] at h; exact h)
  have c118 : cs.drop 56 = rpM p18 v18 s18 ++ cs.drop 225 := cutS (off := 56) (n := 169) (by have h : (cs.drop 56).take (Tryd.prog.cellsOf 34) = rpM p18 v18 s18 := e18; rw [z18] at h; exact h)
  have c119 : cs.drop 225 = [] := List.drop_eq_nil_of_le (by omega)
  have hh : cs = [.int .i64 p0] ++ ([.int .i64 p1] ++ ([.int .i64 p2] ++ ([.int .i64 p3] ++ ([.int .i64 p4] ++ ([.int .i64 p5] ++ ([.int .i64 p6] ++ ([.int .i64 p7] ++ ([.bool p8] ++ ([.slice a9 p9.length c9] ++ (clM p10 a10 b10 ++ ([.int .i64 p11] ++ ([.int .i64 p12] ++ ([.string p13] ++ (cmdM p14  ++ ([.int .i64 p15] ++ ([.int .i64 p16] ++ ([.string p17] ++ (rpM p18 v18 s18 ++ [])))))))))))))))))) := (c100.trans (congrArg (_ ++ ·) (c101.trans (congrArg (_ ++ ·) (c102.trans (congrArg (_ ++ ·) (c103.trans (congrArg (_ ++ ·) (c104.trans (congrArg (_ ++ ·) (c105.trans (congrArg (_ ++ ·) (c106.trans (congrArg (_ ++ ·) (c107.trans (congrArg (_ ++ ·) (c108.trans (congrArg (_ ++ ·) (c109.trans (congrArg (_ ++ ·) (c110.trans (congrArg (_ ++ ·) (c111.trans (congrArg (_ ++ ·) (c112.trans (congrArg (_ ++ ·) (c113.trans (congrArg (_ ++ ·) (c114.trans (congrArg (_ ++ ·) (c115.trans (congrArg (_ ++ ·) (c116.trans (congrArg (_ ++ ·) (c117.trans (congrArg (_ ++ ·) (c118.trans (congrArg (_ ++ ·) c119))))))))))))))))))))))))))))))))))))))
  have e9l : p9.length = (p9.map Prod.fst).length := by rw [List.length_map]
  rw [e9l] at hh
  exact hh.trans (by kernel_rfl)
theorem open_ms {H : Type} {enc : TypeId × Value → H} {W : World} {b0 : Nat} {sp : Nat → Bool} {hd : Bool} {base : Nat} {v : Value} {d : DataW H} {q : List MemPlace}
    (hok : Value.okWide Tryd.prog W .any base 46 v) (h : DataW.Trod enc Tryd.prog W b0 sp hd 46 v d q) :
    ∃ (x : Ms) (m : M5) (es : List EnV), v = .agg (msM x m).toArray ∧ x.entries = es.map Prod.fst ∧ FA W (msF x m es) ∧ RpB x.reply := by
  unfold Value.okWide at hok
  rw [Tryd.underlying46] at hok
  obtain ⟨cs, rfl, hcs, _⟩ := hok
  obtain ⟨fuel, hf⟩ := h
  obtain ⟨x, m, es, hx, h1⟩ := trod_ms hf
  refine ⟨x, m, es, ?_, h1⟩
  congr 1
  apply Array.ext'
  exact hx
theorem trod_ct {H : Type} {enc : TypeId × Value → H} {W : World} {b0 : Nat} {sp : Nat → Bool} {hd : Bool} {m : Nat} {cs : List Value} {y : DataW H × List MemPlace} (hf : DataW.trod enc Tryd.prog W b0 sp hd m 48 cs = some y) :
    ∃ (x : Ct) (m : M5) (es : List EnV), cs = ctM x m ∧ x.msg.entries = es.map Prod.fst ∧ FA W (msF x.msg m es) := by
  obtain ⟨xs, m, rfl, hx, hl, hxl, hi⟩ := DataW.trod_struct Tryd.underlying48 hf
  have z0 : Tryd.prog.cellsOf 3 = 1 := by kernel_rfl
  have z1 : Tryd.prog.cellsOf 3 = 1 := by kernel_rfl
  have z2 : Tryd.prog.cellsOf 3 = 1 := by kernel_rfl
  have z3 : Tryd.prog.cellsOf 4 = 1 := by kernel_rfl
  have z4 : Tryd.prog.cellsOf 46 = 225 := by kernel_rfl
  have z5 : Tryd.prog.cellsOf 3 = 1 := by kernel_rfl
  have zz : Tryd.prog.cellsOf 48 = 230 := by kernel_rfl
  have hxl2 : xs.length = 6 := hxl
  have h0 := hi 0 _ rfl
  rw [List.getElem?_eq_getElem (by omega)] at h0
  have h1 := hi 1 _ rfl
  rw [List.getElem?_eq_getElem (by omega)] at h1
  have h2 := hi 2 _ rfl
  rw [List.getElem?_eq_getElem (by omega)] at h2
  have h3 := hi 3 _ rfl
  rw [List.getElem?_eq_getElem (by omega)] at h3
  have h4 := hi 4 _ rfl
  rw [List.getElem?_eq_getElem (by omega)] at h4
  have h5 := hi 5 _ rfl
  rw [List.getElem?_eq_getElem (by omega)] at h5
  obtain ⟨p0, e0, _, _⟩ := DataW.trod_int Tryd.underlying3 h0
  obtain ⟨p1, e1, _, _⟩ := DataW.trod_int Tryd.underlying3 h1
  obtain ⟨p2, e2, _, _⟩ := DataW.trod_int Tryd.underlying3 h2
  obtain ⟨p3, e3, _⟩ := DataW.trod_bool Tryd.underlying4 h3
  obtain ⟨p4, m4, es4, e4, t4⟩ := trod_ms h4
  obtain ⟨p5, e5, _, _⟩ := DataW.trod_int Tryd.underlying3 h5
  refine ⟨⟨p0, p1, p2, p3, p4, p5⟩, m4, es4, ?_, ⟨t4.1, t4.2.1⟩⟩
  rw [zz] at hl
  have c100 : cs.drop 0 = [.int .i64 p0] ++ cs.drop 1 := cutS (off := 0) (n := 1) (by have h : (cs.drop 0).take (Tryd.prog.cellsOf 3) = [.int .i64 p0] := e0; rw [z0] at h; exact h)
  have c101 : cs.drop 1 = [.int .i64 p1] ++ cs.drop 2 := cutS (off := 1) (n := 1) (by have h : (cs.drop 1).take (Tryd.prog.cellsOf 3) = [.int .i64 p1] := e1; rw [z1] at h; exact h)
  have c102 : cs.drop 2 = [.int .i64 p2] ++ cs.drop 3 := cutS (off := 2) (n := 1) (by have h : (cs.drop 2).take (Tryd.prog.cellsOf 3) = [.int .i64 p2] := e2; rw [z2] at h; exact h)
  have c103 : cs.drop 3 = [.bool p3] ++ cs.drop 4 := cutS (off := 3) (n := 1) (by have h : (cs.drop 3).take (Tryd.prog.cellsOf 4) = [.bool p3] := e3; rw [z3] at h; exact h)
  have c104 : cs.drop 4 = msM p4 m4 ++ cs.drop 229 := cutS (off := 4) (n := 225) (by have h : (cs.drop 4).take (Tryd.prog.cellsOf 46) = msM p4 m4 := e4; rw [z4] at h; exact h)
  have c105 : cs.drop 229 = [.int .i64 p5] ++ cs.drop 230 := cutS (off := 229) (n := 1) (by have h : (cs.drop 229).take (Tryd.prog.cellsOf 3) = [.int .i64 p5] := e5; rw [z5] at h; exact h)
  have c106 : cs.drop 230 = [] := List.drop_eq_nil_of_le (by omega)
  have hh : cs = [.int .i64 p0] ++ ([.int .i64 p1] ++ ([.int .i64 p2] ++ ([.bool p3] ++ (msM p4 m4 ++ ([.int .i64 p5] ++ []))))) := (c100.trans (congrArg (_ ++ ·) (c101.trans (congrArg (_ ++ ·) (c102.trans (congrArg (_ ++ ·) (c103.trans (congrArg (_ ++ ·) (c104.trans (congrArg (_ ++ ·) (c105.trans (congrArg (_ ++ ·) c106))))))))))))
  exact hh.trans (by kernel_rfl)
theorem open_ct {H : Type} {enc : TypeId × Value → H} {W : World} {b0 : Nat} {sp : Nat → Bool} {hd : Bool} {base : Nat} {v : Value} {d : DataW H} {q : List MemPlace}
    (hok : Value.okWide Tryd.prog W .any base 48 v) (h : DataW.Trod enc Tryd.prog W b0 sp hd 48 v d q) :
    ∃ (x : Ct) (m : M5) (es : List EnV), v = .agg (ctM x m).toArray ∧ x.msg.entries = es.map Prod.fst ∧ FA W (msF x.msg m es) := by
  unfold Value.okWide at hok
  rw [Tryd.underlying48] at hok
  obtain ⟨cs, rfl, hcs, _⟩ := hok
  obtain ⟨fuel, hf⟩ := h
  obtain ⟨x, m, es, hx, h1⟩ := trod_ct hf
  refine ⟨x, m, es, ?_, h1⟩
  congr 1
  apply Array.ext'
  exact hx
end Go.Proofs.YtfdmjjhgdbpfeaaDoor
