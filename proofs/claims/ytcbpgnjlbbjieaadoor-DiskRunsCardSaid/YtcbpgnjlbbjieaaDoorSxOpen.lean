/- What the arguments of a law are, as lists. -/
import Derived.Test.YtcbpgnjlbbjieaaDoorSx
import Derived.ProofKit
import Derived.OpenShut
import Derived.SliceStrings
set_option linter.unusedVariables false
set_option linter.unusedSimpArgs false
namespace Go.Sx
open Go.ChangeShapes Go.WideShapes Go.ChangeAt Go.RowKit
variable {H : Type} {enc : TypeId × Value → H} {P : Program} {W : World} {base b0 : Nat} {sp : Nat → Bool} {hd : Bool} {t e : TypeId} {v : Value} {d : DataW H} {p : List MemPlace}
theorem wf_u8 {n : Int} (h : (Lit.int .u8 n).wf = true) : 0 ≤ n ∧ n < 256 := by
  have := bounds_u8 h
  omega
def numOf : Value → Int
  | .int _ n => n
  | _ => 0
theorem open_dg {n : Nat} (hu : P.underlying t = some (.array n e)) (he : P.underlying e = some (.int .u8)) (hz : P.cellsOf e = 1 ∧ P.cellsOf t = n) (hok : Value.okWide P W .any base t v) (h : DataW.Trod enc P W b0 sp hd t v d p) :
    ∃ l : List Int, v = .agg (dg l).toArray ∧ l.length = n ∧ Byt l := by
  unfold Value.okWide at hok
  rw [hu] at hok
  obtain ⟨cs, rfl, hcs, _⟩ := hok
  obtain ⟨fuel, hf⟩ := h
  obtain ⟨xs, m, rfl, hx, hl, hxl, hi⟩ := DataW.trod_array hu hf
  have hl' : cs.toList.length = n := by
    have : (Value.agg cs).cells.toList = cs.toList := rfl
    rw [this] at hl
    rw [hl]
    exact hz.2
  have key : ∀ i : Nat, (hi' : i < n) → ∃ x : Int, cs.toList[i]? = some (.int .u8 x) ∧ 0 ≤ x ∧ x < 256 := by
    intro i hi'
    have h1 := hi i hi'
    rw [List.getElem?_eq_getElem (by omega)] at h1
    obtain ⟨x, hx, _, hw⟩ := DataW.trod_int he h1
    refine ⟨x, ?_, wf_u8 hw⟩
    have h2 := congrArg (fun l => l[0]?) hx
    simp only [hz.1, Nat.mul_one] at h2
    simpa [List.getElem?_take, List.getElem?_drop, Value.cells] using h2
  refine ⟨cs.toList.map numOf, ?_, by simpa using hl', fun x hx => ?_⟩
  · congr 1
    apply Array.ext'
    apply List.ext_getElem?
    intro i
    by_cases hin : i < n
    · obtain ⟨x, hx, _⟩ := key i hin
      simp only [dg, List.getElem?_map, hx, Option.map_some, numOf]
    · rw [List.getElem?_eq_none (by omega), List.getElem?_eq_none (by simp [dg]; simp at hl'; omega)]
  · obtain ⟨u, hu', rfl⟩ := List.mem_map.1 hx
    obtain ⟨i, hi'⟩ := List.mem_iff_getElem?.1 hu'
    have hin : i < n := by rw [← hl']; exact (List.getElem?_eq_some_iff.1 hi').1
    obtain ⟨x, hx, h0, h1⟩ := key i hin
    rw [hx] at hi'
    injection hi' with hi'
    subst hi'
    exact ⟨h0, h1⟩
theorem trod_dg {n fuel : Nat} {cs : List Value} {x : DataW H × List MemPlace} (hu : P.underlying t = some (.array n e)) (he : P.underlying e = some (.int .u8)) (hz : P.cellsOf e = 1 ∧ P.cellsOf t = n) (hf : DataW.trod enc P W b0 sp hd fuel t cs = some x) :
    ∃ l : List Int, cs = dg l ∧ l.length = n ∧ Byt l := by
  obtain ⟨xs, m, rfl, hx, hl, hxl, hi⟩ := DataW.trod_array hu hf
  rw [hz.2] at hl
  have key : ∀ i : Nat, (hi' : i < n) → ∃ x : Int, cs[i]? = some (.int .u8 x) ∧ 0 ≤ x ∧ x < 256 := by
    intro i hi'
    have h1 := hi i hi'
    rw [List.getElem?_eq_getElem (by omega)] at h1
    obtain ⟨x, hx, _, hw⟩ := DataW.trod_int he h1
    refine ⟨x, ?_, wf_u8 hw⟩
    have h2 := congrArg (fun l => l[0]?) hx
    simp only [hz.1, Nat.mul_one] at h2
    simpa [List.getElem?_take, List.getElem?_drop] using h2
  refine ⟨cs.map numOf, ?_, by simpa using hl, fun x hx => ?_⟩
  · apply List.ext_getElem?
    intro i
    by_cases hin : i < n
    · obtain ⟨x, hx, _⟩ := key i hin
      simp only [dg, List.getElem?_map, hx, Option.map_some, numOf]
    · rw [List.getElem?_eq_none (by omega), List.getElem?_eq_none (by simp [dg]; omega)]
  · obtain ⟨u, hu', rfl⟩ := List.mem_map.1 hx
    obtain ⟨i, hi'⟩ := List.mem_iff_getElem?.1 hu'
    have hin : i < n := by rw [← hl]; exact (List.getElem?_eq_some_iff.1 hi').1
    obtain ⟨x, hx, h0, h1⟩ := key i hin
    rw [hx] at hi'
    injection hi' with hi'
    subst hi'
    exact ⟨h0, h1⟩
theorem open_bytes (hu : P.underlying t = some (.slice e)) (he : P.underlying e = some (.int .u8)) (hz : P.cellsOf e = 1) (hok : Value.okWide P W .any base t v) (h : DataW.Trod enc P W b0 sp hd t v d p) :
    ∃ l : List Int, SlB W v l ∧ Byt l := by
  obtain ⟨a, len, cap, rfl⟩ := okWide_slice hu hok
  obtain ⟨fuel, hf⟩ := h
  rcases open_ints hu he hz hf with ⟨hcs, _⟩ | ⟨x, l, c, zs, hcs, _, hl, hm, hzl, _, hcell, hwz⟩
  · simp [Value.cells] at hcs
    obtain ⟨rfl, rfl, rfl⟩ := hcs
    exact ⟨[], .inl ⟨rfl, none, 0, rfl⟩, fun x hx => by simp at hx⟩
  · simp [Value.cells] at hcs
    obtain ⟨rfl, rfl, rfl⟩ := hcs
    have hlz : len ≤ zs.length := by rw [hzl]; split <;> omega
    refine ⟨zs.take len, ?_, fun y hy => wf_u8 (hwz y (List.mem_of_mem_take hy))⟩
    by_cases h0 : len = 0
    · subst h0
      exact .inl ⟨by simp, some x, cap, rfl⟩
    · obtain ⟨b, off, spot⟩ := x
      have hspot : spot = none := by
        have := hcell 0 (by omega)
        simpa [Addr.add] using World.cell?_spot this
      subst hspot
      refine .inr ⟨b, off, cap, by simp [hlz], fun j y hj => ?_⟩
      have hjl : j < len := by
        have := (List.getElem?_eq_some_iff.1 hj).1
        simp at this
        omega
      have := hcell j (by omega)
      rw [add_at] at this
      rw [this]
      rw [List.getElem?_take, if_pos hjl] at hj
      simp [List.getD_eq_getElem?_getD, hj]
theorem open_cap (hu : P.underlying t = some (.slice e)) (he : P.underlying e = some (.int .u8)) (hz : P.cellsOf e = 1) (hok : Value.okWide P W .any base t v) (h : DataW.Trod enc P W b0 sp hd t v d p) :
    ∀ a n c, v = .slice a n c → n ≤ c := by
  obtain ⟨a, len, cap, rfl⟩ := okWide_slice hu hok
  obtain ⟨fuel, hf⟩ := h
  rintro a' n' c' e'
  obtain ⟨rfl, rfl, rfl⟩ := Value.slice.injEq .. ▸ e'
  rcases open_ints hu he hz hf with ⟨hcs, _⟩ | ⟨x, l, c, zs, hcs, _, hl, hm, hzl, _, hcell, hwz⟩
  · simp [Value.cells] at hcs
    omega
  · simp [Value.cells] at hcs
    obtain ⟨_, rfl, rfl⟩ := hcs
    exact hl
theorem open_nums {k : IntKind} (hu : P.underlying t = some (.slice e)) (he : P.underlying e = some (.int k)) (hz : P.cellsOf e = 1) (hok : Value.okWide P W .any base t v) (h : DataW.Trod enc P W b0 sp hd t v d p) :
    ∃ (n : Nat) (l : List Int), l.length = n ∧ SlC 1 W v n (l.map (Value.int k)) := by
  obtain ⟨a, len, cap, rfl⟩ := okWide_slice hu hok
  obtain ⟨fuel, hf⟩ := h
  rcases open_ints hu he hz hf with ⟨hcs, _⟩ | ⟨x, l, c, zs, hcs, _, hl, hm, hzl, _, hcell, hwz⟩
  · simp [Value.cells] at hcs
    obtain ⟨rfl, rfl, rfl⟩ := hcs
    exact ⟨0, [], rfl, .inl ⟨rfl, rfl, none, 0, rfl⟩⟩
  · simp [Value.cells] at hcs
    obtain ⟨rfl, rfl, rfl⟩ := hcs
    have hlz : len ≤ zs.length := by rw [hzl]; split <;> omega
    have hlt : (zs.take len).length = len := by rw [List.length_take]; omega
    refine ⟨len, zs.take len, hlt, ?_⟩
    by_cases h0 : len = 0
    · subst h0
      exact .inl ⟨rfl, by simp, some x, cap, rfl⟩
    · obtain ⟨b, off, spot⟩ := x
      have hspot : spot = none := by
        have := hcell 0 (by omega)
        simpa [Addr.add] using World.cell?_spot this
      subst hspot
      refine .inr ⟨b, off, cap, rfl, by rw [List.length_map, hlt, Nat.mul_one], fun j y hj => ?_⟩
      have hjl : j < len := by
        have := (List.getElem?_eq_some_iff.1 hj).1
        rw [List.length_map, hlt] at this
        exact this
      have := hcell j (by omega)
      rw [add_at] at this
      rw [this]
      rw [List.getElem?_map, List.getElem?_take, if_pos hjl] at hj
      rw [List.getD_eq_getElem?_getD, List.getElem?_eq_getElem (by omega)]
      rw [List.getElem?_eq_getElem (by omega)] at hj
      exact hj
theorem open_strs (hu : P.underlying t = some (.slice e)) (he : P.underlying e = some .string) (hz : P.cellsOf e = 1) (hok : Value.okWide P W .any base t v) (h : DataW.Trod enc P W b0 sp hd t v d p) :
    ∃ (n : Nat) (l : List ByteArray), l.length = n ∧ SlC 1 W v n (l.map Value.string) := by
  obtain ⟨a, len, cap, rfl⟩ := okWide_slice hu hok
  obtain ⟨fuel, hf⟩ := h
  rcases open_strings hu he hz hf with ⟨hcs, _⟩ | ⟨x, l, c, zs, hcs, _, hl, hm, hzl, _, hcell, hwz⟩
  · simp [Value.cells] at hcs
    obtain ⟨rfl, rfl, rfl⟩ := hcs
    exact ⟨0, [], rfl, .inl ⟨rfl, rfl, none, 0, rfl⟩⟩
  · simp [Value.cells] at hcs
    obtain ⟨rfl, rfl, rfl⟩ := hcs
    have hlz : len ≤ zs.length := by rw [hzl]; split <;> omega
    have hlt : (zs.take len).length = len := by rw [List.length_take]; omega
    refine ⟨len, zs.take len, hlt, ?_⟩
    by_cases h0 : len = 0
    · subst h0
      exact .inl ⟨rfl, by simp, some x, cap, rfl⟩
    · obtain ⟨b, off, spot⟩ := x
      have hspot : spot = none := by
        have := hcell 0 (by omega)
        simpa [Addr.add] using World.cell?_spot this
      subst hspot
      refine .inr ⟨b, off, cap, rfl, by rw [List.length_map, hlt, Nat.mul_one], fun j y hj => ?_⟩
      have hjl : j < len := by
        have := (List.getElem?_eq_some_iff.1 hj).1
        rw [List.length_map, hlt] at this
        exact this
      have := hcell j (by omega)
      rw [add_at] at this
      rw [this]
      rw [List.getElem?_map, List.getElem?_take, if_pos hjl] at hj
      rw [List.getD_eq_getElem?_getD, List.getElem?_eq_getElem (by omega)]
      rw [List.getElem?_eq_getElem (by omega)] at hj
      exact hj
/-- A slice of elements that are read alike: each as one of these. -/
theorem open_list {α : Type} {sz : Nat} {f : α → List Value} {good : α → Prop} (hsz : ∀ x, (f x).length = sz + 1) (hz : P.cellsOf e = sz + 1) (hu : P.underlying t = some (.slice e))
    (hel : ∀ (m : Nat) cs y, DataW.trod enc P W b0 sp hd m e cs = some y → ∃ x : α, cs = f x ∧ good x) (hok : Value.okWide P W .any base t v) (h : DataW.Trod enc P W b0 sp hd t v d p) :
    ∃ (n : Nat) (l : List α), l.length = n ∧ SlC (sz + 1) W v n (l.flatMap f) ∧ ∀ x ∈ l, good x := by
  obtain ⟨a, len, cap, rfl⟩ := okWide_slice hu hok
  obtain ⟨fuel, hf⟩ := h
  rcases DataW.trod_slice hu hf with ⟨hcs, _⟩ | ⟨x, len', cap', elems, rest, m, _, hcs, _, hb, hl, hm, hlen, he, _, _⟩
  · simp [Value.cells] at hcs
    obtain ⟨rfl, rfl, rfl⟩ := hcs
    exact ⟨0, [], rfl, .inl ⟨rfl, rfl, none, 0, rfl⟩, by simp⟩
  · simp [Value.cells] at hcs
    obtain ⟨rfl, rfl, rfl⟩ := hcs
    have key : ∀ i, i < len → ∃ y : α, good y ∧ W.cells? b0 (x.add (i * (sz + 1))) (sz + 1) = some (f y) := by
      intro i hi
      have h1 := he i hi
      rw [List.getElem?_eq_getElem (by omega), hz] at h1
      obtain ⟨cs, hcs, hy⟩ := Option.bind_eq_some_iff.1 h1
      obtain ⟨y, rfl, hg⟩ := hel m cs _ hy
      exact ⟨y, hg, hcs⟩
    have build : ∀ k, k ≤ len → ∃ l : List α, l.length = k ∧ (∀ y ∈ l, good y) ∧ ∀ i (hi : i < k) y, l[i]? = some y → W.cells? b0 (x.add (i * (sz + 1))) (sz + 1) = some (f y) := by
      intro k
      induction k with
      | zero => exact fun _ => ⟨[], rfl, by simp, fun i hi => by omega⟩
      | succ k ih =>
        intro hk
        obtain ⟨l, h1, h2, h3⟩ := ih (by omega)
        obtain ⟨y, hg, hy⟩ := key k (by omega)
        refine ⟨l ++ [y], by simp [h1], fun z hz => ?_, fun i hi z hz => ?_⟩
        · rcases List.mem_append.1 hz with h4 | h4
          · exact h2 z h4
          · simp only [List.mem_singleton] at h4; subst h4; exact hg
        · by_cases hik : i = k
          · subst hik
            rw [List.getElem?_append_right (by omega), h1, Nat.sub_self] at hz
            simp only [List.getElem?_cons_zero, Option.some.injEq] at hz
            subst hz
            exact hy
          · rw [List.getElem?_append_left (by omega)] at hz
            exact h3 i (by omega) z hz
    obtain ⟨l, hll, hgood, hcell⟩ := build len (Nat.le_refl _)
    refine ⟨len, l, hll, ?_, hgood⟩
    have hfl : ∀ l : List α, (l.flatMap f).length = l.length * (sz + 1) := fun l => by
      induction l with
      | nil => simp
      | cons y l ih => rw [List.flatMap_cons, List.length_append, hsz, ih, List.length_cons, Nat.add_mul, Nat.one_mul, Nat.add_comm]
    by_cases h0 : len = 0
    · subst h0
      have : l = [] := List.eq_nil_of_length_eq_zero hll
      subst this
      exact .inl ⟨rfl, rfl, some x, cap, rfl⟩
    · obtain ⟨b, off, spot⟩ := x
      have hspot : spot = none := by
        have hc0 := hcell 0 (by omega) (l[0]'(by omega)) (by simp)
        have := (World.cells?_some hc0).2.2 0 (by omega)
        rw [List.getElem?_eq_getElem (by rw [hsz]; omega)] at this
        simp only [Nat.zero_mul] at this
        simpa [Addr.add] using World.cell?_spot this
      subst hspot
      refine .inr ⟨b, off, cap, rfl, by rw [hfl, hll], fun j u hj => ?_⟩
      have hjl : j < len * (sz + 1) := by
        have := (List.getElem?_eq_some_iff.1 hj).1
        rwa [hfl, hll] at this
      have hi : j / (sz + 1) < len := by rw [Nat.div_lt_iff_lt_mul (by omega)]; exact hjl
      have hsplit : ∀ (l : List α) (j : Nat) u, (l.flatMap f)[j]? = some u → ∃ y, l[j / (sz + 1)]? = some y ∧ (f y)[j % (sz + 1)]? = some u := fun l => by
        induction l with
        | nil => intro j u h; simp at h
        | cons y l ih =>
          intro j u h
          rw [List.flatMap_cons] at h
          by_cases hjs : j < sz + 1
          · rw [List.getElem?_append_left (by rw [hsz]; exact hjs)] at h
            rw [Nat.div_eq_of_lt hjs, Nat.mod_eq_of_lt hjs]
            exact ⟨y, rfl, h⟩
          · rw [List.getElem?_append_right (by rw [hsz]; omega), hsz] at h
            obtain ⟨z, h5, h6⟩ := ih _ u h
            refine ⟨z, ?_, ?_⟩
            · rw [Nat.div_eq_sub_div (by omega) (by omega)]
              exact h5
            · rw [Nat.mod_eq_sub_mod (by omega)]
              exact h6
      obtain ⟨y, hy, hu'⟩ := hsplit l j u hj
      have hc := (World.cells?_some (hcell _ hi y hy)).2.2 (j % (sz + 1)) (Nat.mod_lt _ (by omega))
      rw [hu'] at hc
      rw [add_add, add_at] at hc
      have hdm := Nat.div_add_mod j (sz + 1)
      rw [Nat.mul_comm] at hdm
      rw [hdm] at hc
      exact hc
theorem open_capL (hu : P.underlying t = some (.slice e)) (hok : Value.okWide P W .any base t v) (h : DataW.Trod enc P W b0 sp hd t v d p) : ∀ a n c, v = .slice a n c → n ≤ c := by
  obtain ⟨a, len, cap, rfl⟩ := okWide_slice hu hok
  obtain ⟨fuel, hf⟩ := h
  rintro a' n' c' e'
  obtain ⟨rfl, rfl, rfl⟩ := Value.slice.injEq .. ▸ e'
  rcases DataW.trod_slice hu hf with ⟨hcs, _⟩ | ⟨x, len', cap', elems, rest, m, _, hcs, _, hb, hl, hm, hlen, he, _, _⟩
  · simp [Value.cells] at hcs
    omega
  · simp [Value.cells] at hcs
    obtain ⟨_, rfl, rfl⟩ := hcs
    exact hl
end Go.Sx
