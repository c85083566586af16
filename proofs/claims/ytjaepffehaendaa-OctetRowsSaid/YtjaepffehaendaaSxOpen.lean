/- What the arguments of a law are, as lists. -/
import Derived.Test.YtjaepffehaendaaSx
import Derived.ProofKit
import Derived.OpenShut
import Derived.SliceStrings
set_option linter.unusedVariables false
set_option linter.unusedSimpArgs false
namespace Go.Sx
open Go.ChangeShapes Go.WideShapes Go.ChangeAt Go.RowKit
variable {H : Type} {enc : TypeId × Value → H} {P : Program} {W : World} {base b0 : Nat} {sp : Nat → Bool} {hd : Bool} {t e : TypeId} {v : Value} {d : DataW H} {p : List MemPlace}
theorem wf_u8 {n : Int} (h : (Lit.int .u8 n).wf = true) : 0 ≤ n ∧ n < 256 := by
  have := bounds_u8 h
  omega
def numOf : Value → Int
  | .int _ n => n
  | _ => 0
theorem open_dg {n : Nat} (hu : P.underlying t = some (.array n e)) (he : P.underlying e = some (.int .u8)) (hz : P.cellsOf e = 1 ∧ P.cellsOf t = n) (hok : Value.okWide P W .any base t v) (h : DataW.Trod enc P W b0 sp hd t v d p) :
    ∃ l : List Int, v = .agg (dg l).toArray ∧ l.length = n ∧ Byt l := by
  unfold Value.okWide at hok
  rw [hu] at hok
  obtain ⟨cs, rfl, hcs, _⟩ := hok
  obtain ⟨fuel, hf⟩ := h
  obtain ⟨xs, m, rfl, hx, hl, hxl, hi⟩ := DataW.trod_array hu hf
  have hl' : cs.toList.length = n := by
    have : (Value.agg cs).cells.toList = cs.toList := rfl
    rw [this] at hl
    rw [hl]
    exact hz.2
  have key : ∀ i : Nat, (hi' : i < n) → ∃ x : Int, cs.toList[i]? = some (.int .u8 x) ∧ 0 ≤ x ∧ x < 256 := by
    intro i hi'
    have h1 := hi i hi'
    rw [List.getElem?_eq_getElem (by omega)] at h1
    obtain ⟨x, hx, _, hw⟩ := DataW.trod_int he h1
    refine ⟨x, ?_, wf_u8 hw⟩
    have h2 := congrArg (fun l => l[0]?) hx
    simp only [hz.1, Nat.mul_one] at h2
    simpa [List.getElem?_take, List.getElem?_drop, Value.cells] using h2
  refine ⟨cs.toList.map numOf, ?_, by simpa using hl', fun x hx => ?_⟩
  · congr 1
    apply Array.ext'
    apply List.ext_getElem?
    intro i
    by_cases hin : i < n
    · obtain ⟨x, hx, _⟩ := key i hin
      simp only [dg, List.getElem?_map, hx, Option.map_some, numOf]
    · rw [List.getElem?_eq_none (by omega), List.getElem?_eq_none (by simp [dg]; simp at hl'; omega)]
  · obtain ⟨u, hu', rfl⟩ := List.mem_map.1 hx
    obtain ⟨i, hi'⟩ := List.mem_iff_getElem?.1 hu'
    have hin : i < n := by rw [← hl']; exact (List.getElem?_eq_some_iff.1 hi').1
    obtain ⟨x, hx, h0, h1⟩ := key i hin
    rw [hx] at hi'
    injection hi' with hi'
    subst hi'
    exact ⟨h0, h1⟩
theorem trod_dg {n fuel : Nat} {cs : List Value} {x : DataW H × List MemPlace} (hu : P.underlying t = some (.array n e)) (he : P.underlying e = some (.int .u8)) (hz : P.cellsOf e = 1 ∧ P.cellsOf t = n) (hf : DataW.trod enc P W b0 sp hd fuel t cs = some x) :
    ∃ l : List Int, cs = dg l ∧ l.length = n ∧ Byt l := by
  obtain ⟨xs, m, rfl, hx, hl, hxl, hi⟩ := DataW.trod_array hu hf
  rw [hz.2] at hl
  have key : ∀ i : Nat, (hi' : i < n) → ∃ x : Int, cs[i]? = some (.int .u8 x) ∧ 0 ≤ x ∧ x < 256 := by
    intro i hi'
    have h1 := hi i hi'
    rw [List.getElem?_eq_getElem (by omega)] at h1
    obtain ⟨x, hx, _, hw⟩ := DataW.trod_int he h1
    refine ⟨x, ?_, wf_u8 hw⟩
    have h2 := congrArg (fun l => l[0]?) hx
    simp only [hz.1, Nat.mul_one] at h2
    simpa [List.getElem?_take, List.getElem?_drop] using h2
  refine ⟨cs.map numOf, ?_, by simpa using hl, fun x hx => ?_⟩
  · apply List.ext_getElem?
    intro i
    by_cases hin : i < n
    · obtain ⟨x, hx, _⟩ := key i hin
      simp only [dg, List.getElem?_map, hx, Option.map_some, numOf]
    · rw [List.getElem?_eq_none (by omega), List.getElem?_eq_none (by simp [dg]; omega)]
  · obtain ⟨u, hu', rfl⟩ := List.mem_map.1 hx
    obtain ⟨i, hi'⟩ := List.mem_iff_getElem?.1 hu'
    have hin : i < n := by rw [← hl]; exact (List.getElem?_eq_some_iff.1 hi').1
    obtain ⟨x, hx, h0, h1⟩ := key i hin
    rw [hx] at hi'
    injection hi' with hi'
    subst hi'
    exact ⟨h0, h1⟩
theorem open_bytes (hu : P.underlying t = some (.slice e)) (he : P.underlying e = some (.int .u8)) (hz : P.cellsOf e = 1) (hok : Value.okWide P W .any base t v) (h : DataW.Trod enc P W b0 sp hd t v d p) :
    ∃ l : List Int, SlB W v l ∧ Byt l := by
  obtain ⟨a, len, cap, rfl⟩ := okWide_slice hu hok
  obtain ⟨fuel, hf⟩ := h
  rcases open_ints hu he hz hf with ⟨hcs, _⟩ | ⟨x, l, c, zs, hcs, _, hl, hm, hzl, _, hcell, hwz⟩
  · simp [Value.cells] at hcs
    obtain ⟨rfl, rfl, rfl⟩ := hcs
    exact ⟨[], .inl ⟨rfl, none, 0, rfl⟩, fun x hx => by simp at hx⟩
  · simp [Value.cells] at hcs
    obtain ⟨rfl, rfl, rfl⟩ := hcs
    have hlz : len ≤ zs.length := by rw [hzl]; split <;> omega
    refine ⟨zs.take len, ?_, fun y hy => wf_u8 (hwz y (List.mem_of_mem_take hy))⟩
    by_cases h0 : len = 0
    · subst h0
      exact .inl ⟨by simp, some x, cap, rfl⟩
    · obtain ⟨b, off, spot⟩ := x
      have hspot : spot = none := by
        have := hcell 0 (by omega)
        simpa [Addr.add] using World.cell?_spot this
      subst hspot
      refine .inr ⟨b, off, cap, by simp [hlz], fun j y hj => ?_⟩
      have hjl : j < len := by
        have := (List.getElem?_eq_some_iff.1 hj).1
        simp at this
        omega
      have := hcell j (by omega)
      rw [add_at] at this
      rw [this]
      rw [List.getElem?_take, if_pos hjl] at hj
      simp [List.getD_eq_getElem?_getD, hj]
theorem open_cap (hu : P.underlying t = some (.slice e)) (he : P.underlying e = some (.int .u8)) (hz : P.cellsOf e = 1) (hok : Value.okWide P W .any base t v) (h : DataW.Trod enc P W b0 sp hd t v d p) :
    ∀ a n c, v = .slice a n c → n ≤ c := by
  obtain ⟨a, len, cap, rfl⟩ := okWide_slice hu hok
  obtain ⟨fuel, hf⟩ := h
  rintro a' n' c' e'
  obtain ⟨rfl, rfl, rfl⟩ := Value.slice.injEq .. ▸ e'
  rcases open_ints hu he hz hf with ⟨hcs, _⟩ | ⟨x, l, c, zs, hcs, _, hl, hm, hzl, _, hcell, hwz⟩
  · simp [Value.cells] at hcs
    omega
  · simp [Value.cells] at hcs
    obtain ⟨_, rfl, rfl⟩ := hcs
    exact hl
theorem open_nums {k : IntKind} (hu : P.underlying t = some (.slice e)) (he : P.underlying e = some (.int k)) (hz : P.cellsOf e = 1) (hok : Value.okWide P W .any base t v) (h : DataW.Trod enc P W b0 sp hd t v d p) :
    ∃ (n : Nat) (l : List Int), l.length = n ∧ SlC 1 W v n (l.map (Value.int k)) := by
  obtain ⟨a, len, cap, rfl⟩ := okWide_slice hu hok
  obtain ⟨fuel, hf⟩ := h
  rcases open_ints hu he hz hf with ⟨hcs, _⟩ | ⟨x, l, c, zs, hcs, _, hl, hm, hzl, _, hcell, hwz⟩
  · simp [Value.cells] at hcs
    obtain ⟨rfl, rfl, rfl⟩ := hcs
    exact ⟨0, [], rfl, .inl ⟨rfl, rfl, none, 0, rfl⟩⟩
  · simp [Value.cells] at hcs
    obtain ⟨rfl, rfl, rfl⟩ := hcs
    have hlz : len ≤ zs.length := by rw [hzl]; split <;> omega
    have hlt : (zs.take len).length = len := by rw [List.length_take]; omega
    refine ⟨len, zs.take len, hlt, ?_⟩
    by_cases h0 : len = 0
    · subst h0
      exact .inl ⟨rfl, by simp, some x, cap, rfl⟩
    · obtain ⟨b, off, spot⟩ := x
      have hspot : spot = none := by
        have := hcell 0 (by omega)
        simpa [Addr.add] using World.cell?_spot this
      subst hspot
      refine .inr ⟨b, off, cap, rfl, by rw [List.length_map, hlt, Nat.mul_one], fun j y hj => ?_⟩
      have hjl : j < len := by
        have := (List.getElem?_eq_some_iff.1 hj).1
        rw [List.length_map, hlt] at this
        exact this
      have := hcell j (by omega)
      rw [add_at] at this
      rw [this]
      rw [List.getElem?_map, List.getElem?_take, if_pos hjl] at hj
      rw [List.getD_eq_getElem?_getD, List.getElem?_eq_getElem (by omega)]
      rw [List.getElem?_eq_getElem (by omega)] at hj
      exact hj
theorem open_strs (hu : P.underlying t = some (.slice e)) (he : P.underlying e = some .string) (hz : P.cellsOf e = 1) (hok : Value.okWide P W .any base t v) (h : DataW.Trod enc P W b0 sp hd t v d p) :
    ∃ (n : Nat) (l : List ByteArray), l.length = n ∧ SlC 1 W v n (l.map Value.string) := by
  obtain ⟨a, len, cap, rfl⟩ := okWide_slice hu hok
  obtain ⟨fuel, hf⟩ := h
  rcases open_strings hu he hz hf with ⟨hcs, _⟩ | ⟨x, l, c, zs, hcs, _, hl, hm, hzl, _, hcell, hwz⟩
  · simp [Value.cells] at hcs
    obtain ⟨rfl, rfl, rfl⟩ := hcs
    exact ⟨0, [], rfl, .inl ⟨rfl, rfl, none, 0, rfl⟩⟩
  · simp [Value.cells] at hcs
    obtain ⟨rfl, rfl, rfl⟩ := hcs
    have hlz : len ≤ zs.length := by rw [hzl]; split <;> omega
    have hlt : (zs.take len).length = len := by rw [List.length_take]; omega
    refine ⟨len, zs.take len, hlt, ?_⟩
    by_cases h0 : len = 0
    · subst h0
      exact .inl ⟨rfl, by simp, some x, cap, rfl⟩
    · obtain ⟨b, off, spot⟩ := x
      have hspot : spot = none := by
        have := hcell 0 (by omega)
        simpa [Addr.add] using World.cell?_spot this
      subst hspot
      refine .inr ⟨b, off, cap, rfl, by rw [List.length_map, hlt, Nat.mul_one], fun j y hj => ?_⟩
      have hjl : j < len := by
        have := (List.getElem?_eq_some_iff.1 hj).1
        rw [List.length_map, hlt] at this
        exact this
      have := hcell j (by omega)
      rw [add_at] at this
      rw [this]
      rw [List.getElem?_map, List.getElem?_take, if_pos hjl] at hj
      rw [List.getD_eq_getElem?_getD, List.getElem?_eq_getElem (by omega)]
      rw [List.getElem?_eq_getElem (by omega)] at hj
      exact hj
end Go.Sx
