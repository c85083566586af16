/- What the arguments of a law are: rows of bytes, a row of bools. -/
import Derived.Test.YtejhcdjfcopphaaDoorSxOpen
import Derived.Deep.Grids
set_option linter.unusedVariables false
set_option linter.unusedSimpArgs false
namespace Go.Sx
open Go.ChangeShapes Go.WideShapes Go.ChangeAt Go.RowKit
variable {H : Type} {enc : TypeId × Value → H} {P : Program} {W : World} {base b0 : Nat} {sp : Nat → Bool} {hd : Bool} {t e : TypeId} {v : Value} {d : DataW H} {p : List MemPlace}
theorem trod_bytes {m : Nat} {cs : List Value} {y : DataW H × List MemPlace} (hu : P.underlying t = some (.slice e)) (he : P.underlying e = some (.int .u8)) (hz : P.cellsOf e = 1) (hf : DataW.trod enc P W b0 sp hd m t cs = some y) :
    ∃ (v : Value) (l : List Int), cs = [v] ∧ SlB W v l ∧ Byt l ∧ ∀ a n c, v = .slice a n c → n ≤ c := by
  rcases open_ints hu he hz hf with ⟨hcs, _⟩ | ⟨x, len, cap, zs, hcs, _, hl, hm, hzl, _, hcell, hwz⟩
  · exact ⟨_, [], hcs, .inl ⟨rfl, none, 0, rfl⟩, fun x hx => by simp at hx, fun a n c h => by cases h; exact Nat.le_refl _⟩
  · have hlz : len ≤ zs.length := by rw [hzl]; split <;> omega
    refine ⟨_, zs.take len, hcs, ?_, fun y hy => wf_u8 (hwz y (List.mem_of_mem_take hy)), fun a n c h => by cases h; exact hl⟩
    by_cases h0 : len = 0
    · subst h0
      exact .inl ⟨by simp, some x, cap, rfl⟩
    · obtain ⟨b, off, spot⟩ := x
      have hspot : spot = none := by
        have := hcell 0 (by omega)
        simpa [Addr.add] using World.cell?_spot this
      subst hspot
      refine .inr ⟨b, off, cap, by simp [hlz], fun j y hj => ?_⟩
      have hjl : j < len := by
        have := (List.getElem?_eq_some_iff.1 hj).1
        simp at this
        omega
      have := hcell j (by omega)
      rw [add_at] at this
      rw [this]
      rw [List.getElem?_take, if_pos hjl] at hj
      simp [List.getD_eq_getElem?_getD, hj]
abbrev RowB (W : World) (p : List Int × Value) : Prop := SlB W p.2 p.1 ∧ Byt p.1 ∧ ∀ a n c, p.2 = .slice a n c → n ≤ c
theorem open_rows {f : TypeId} (hu : P.underlying t = some (.slice e)) (he : P.underlying e = some (.slice f)) (hf : P.underlying f = some (.int .u8)) (hz : P.cellsOf e = 1) (hz2 : P.cellsOf f = 1) (hok : Value.okWide P W .any base t v) (h : DataW.Trod enc P W b0 sp hd t v d p) :
    ∃ (n : Nat) (l : List (List Int × Value)), l.length = n ∧ SlC 1 W v n (l.flatMap fun p => [p.2]) ∧ ∀ p ∈ l, RowB W p :=
  open_list (sz := 0) (fun _ => rfl) hz hu (fun m cs y hy => by
    obtain ⟨v, l, h1, h2, h3, h4⟩ := trod_bytes he hf hz2 hy
    exact ⟨(l, v), h1, h2, h3, h4⟩) hok h
theorem open_bls (hu : P.underlying t = some (.slice e)) (he : P.underlying e = some .bool) (hz : P.cellsOf e = 1) (hok : Value.okWide P W .any base t v) (h : DataW.Trod enc P W b0 sp hd t v d p) :
    ∃ (n : Nat) (l : List Bool), l.length = n ∧ SlC 1 W v n (l.flatMap fun b => [.bool b]) := by
  obtain ⟨n, l, h1, h2, _⟩ := open_list (sz := 0) (good := fun _ : Bool => True) (f := fun b => [Value.bool b]) (fun _ => rfl) hz hu (fun m cs y hy => by
    obtain ⟨b, h1, _⟩ := DataW.trod_bool he hy
    exact ⟨b, h1, trivial⟩) hok h
  exact ⟨n, l, h1, h2⟩
end Go.Sx
