/- What the reference's functions that lay a message hand back. -/
import Derived.Test.YtfgcfjojpakpjaaGreatWRef2
set_option linter.unusedVariables false
set_option linter.unusedSimpArgs false
set_option maxRecDepth 100000
namespace Go.Proofs.YtfgcfjojpakpjaaGreat
open Go.Sx
theorem then2_nil' (x : Except Int (List Int)) : then2 (.ok []) x = x := by cases x <;> rfl
theorem own_new {cx : Cx} {m : Mem} {fs : List Fact} {w : World} {q : OwnR} {M : List Int} (h : OkW cx m fs w) (hm : cx.mods = []) (hs : ∀ p ∈ ownM 5 q (dg M), p ∈ m) (hq : OwnC 1 q M.length (dg M)) : ∀ k, (factB (ownV q M.length) M).fp k → cx.w0.heap.size ≤ k := by
  rintro k ⟨hne, off, n, c, e⟩
  cases q with
  | none => exact absurd (List.eq_nil_of_length_eq_zero hq.1) hne
  | some q =>
    obtain ⟨g, c0, r⟩ := q
    simp only [ownV, oA, oC, Value.slice.injEq, Option.some.injEq, Addr.mk.injEq] at e
    obtain ⟨⟨rfl, _⟩, _⟩ := e
    have hp := hs (g, row 5 (dg M ++ r)) (by simp [ownM])
    rcases h.may g (List.mem_map.2 ⟨_, hp, rfl⟩) with h1 | h1
    · exact h1
    · rw [hm] at h1
      cases h1
theorem own_sl {cx : Cx} {m1 : Mem} {fs : List Fact} {w : World} {q : OwnR} {M : List Int} (h : OkW cx (m1 ++ ownM 5 q (dg M)) fs w) (hq : OwnC 1 q M.length (dg M)) : SlB w (ownV q M.length) M :=
  SlB.ofN (m1 := m1) (m2 := []) (e := 5) (by rw [List.append_nil]; exact h) hq rfl



end Go.Proofs.YtfgcfjojpakpjaaGreat
