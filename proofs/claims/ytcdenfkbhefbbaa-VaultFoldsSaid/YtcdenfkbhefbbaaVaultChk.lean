/- When what is saved is right: told step by step. -/
import Derived.Test.YtcdenfkbhefbbaaV7
set_option linter.unusedVariables false
set_option linter.unusedSimpArgs false
set_option maxRecDepth 100000
namespace Go.Proofs.Ytcdenfkbhefbbaa
open Go.Sx
def goB (sn : Sn) (es : List EnV) (k : Nat) : Bool := decide (∀ j, j < k → (es.getD j env0).1.1 - 1 - (j : Int) = sn.1)
theorem goB_0 (sn : Sn) (es : List EnV) : goB sn es 0 = true := decide_eq_true fun j h => absurd h (Nat.not_lt_zero _)
theorem goB_succ (sn : Sn) (es : List EnV) (k : Nat) : goB sn es (k + 1) = (goB sn es k && decide ((es.getD k env0).1.1 - 1 - (k : Int) = sn.1)) := by
  unfold goB
  rw [← Bool.decide_and, decide_eq_decide]
  refine ⟨fun h => ⟨fun j hj => h j (Nat.lt_succ_of_lt hj), h k (Nat.lt_succ_self k)⟩, fun h j hj => ?_⟩
  rcases Nat.lt_or_eq_of_le (Nat.le_of_lt_succ hj) with h1 | rfl
  · exact h.1 j h1
  · exact h.2
def riB (gl : List Sg) (k : Nat) : Bool := decide (∀ j, j < k → 0 < j → (gl.getD (j - 1) sg0).1.1 < (gl.getD j sg0).1.1)
theorem riB_0 (gl : List Sg) : riB gl 0 = true := decide_eq_true fun j h => absurd h (Nat.not_lt_zero _)
theorem riB_succ (gl : List Sg) (k : Nat) : riB gl (k + 1) = (riB gl k && (decide (k = 0) || decide ((gl.getD (k - 1) sg0).1.1 < (gl.getD k sg0).1.1))) := by
  unfold riB
  rw [← Bool.decide_or, ← Bool.decide_and, decide_eq_decide]
  refine ⟨fun h => ⟨fun j hj => h j (Nat.lt_succ_of_lt hj), ?_⟩, fun h j hj h0 => ?_⟩
  · rcases Nat.eq_zero_or_pos k with h1 | h1
    · exact .inl h1
    · exact .inr (h k (Nat.lt_succ_self k) h1)
  · rcases Nat.lt_or_eq_of_le (Nat.le_of_lt_succ hj) with h1 | rfl
    · exact h.1 j h1 h0
    · rcases h.2 with h2 | h2
      · omega
      · exact h2
theorem goB_iff {t v : Int} {sn : Sn} {es : List EnV} {gl : List Sg} : goB sn es es.length = true ↔ goesP ⟨t, v, sn, es.map Prod.fst, gl⟩ := by
  unfold goB goesP
  rw [decide_eq_true_eq]
  simp only [List.length_map]
  have hg : ∀ i, i < es.length → (es.map Prod.fst).getD i en0 = (es.getD i env0).1 := fun i hi => by
    rw [List.getD_eq_getElem?_getD, List.getElem?_map, List.getD_eq_getElem?_getD, List.getElem?_eq_getElem hi]
    rfl
  exact ⟨fun h i hi => by rw [hg i hi]; exact h i hi, fun h i hi => by rw [← hg i hi]; exact h i hi⟩
theorem riB_iff {t v : Int} {sn : Sn} {es : List En} {gl : List Sg} : riB gl gl.length = true ↔ risesP ⟨t, v, sn, es, gl⟩ := by
  unfold riB risesP
  rw [decide_eq_true_eq]
  exact ⟨fun h i h0 hi => h i hi h0, fun h i hi h0 => h i h0 hi⟩
theorem told_iff {t v : Int} {sn : Sn} {a b : Sp} {es : List EnV} {gl : List Sg} : (∀ p ∈ RL t v sn a b es gl, okR p.1 = true) ↔ toldP ⟨t, v, sn, es.map Prod.fst, gl⟩ := by
  unfold RL toldP
  simp only [List.mem_append, List.mem_cons, List.mem_map]
  constructor
  · intro h
    refine ⟨h _ (.inl (.inl rfl)), fun hs => ?_, fun e he => ?_, fun x hx => h _ (.inr (.inr ⟨x, hx, rfl⟩))⟩
    · exact h (nR sn, spN, spN, a, b) (.inl (.inr (by rw [if_neg hs]; exact List.mem_singleton.2 rfl)))
    · obtain ⟨p, hp, rfl⟩ := he
      exact h _ (.inr (.inl ⟨p, hp, rfl⟩))
  · rintro ⟨h1, h2, h3, h4⟩ p ((rfl | hp) | ⟨q, hq, rfl⟩ | ⟨q, hq, rfl⟩)
    · exact h1
    · by_cases hs : sn = sn0
      · rw [if_pos hs] at hp
        cases hp
      · rw [if_neg hs] at hp
        obtain rfl := List.mem_singleton.1 hp
        exact h2 hs
    · exact h3 _ ⟨q, hq, rfl⟩
    · exact h4 _ hq
/-- Where an index is far from wrapping, both tell the same. -/
theorem wrap_far {e i s : Int} (he : -9223372036854775808 ≤ e) (he2 : e ≤ 9223372036854775807) (hi : 0 ≤ i) (hi2 : i ≤ 9000) (hs : 0 ≤ s) (hs2 : s ≤ 900000000) : IntKind.i64.wrap (IntKind.i64.wrap (e - 1) - i) = s ↔ e - 1 - i = s := by
  rw [IntKind.wrap_i64, IntKind.wrap_i64]
  omega
end Go.Proofs.Ytcdenfkbhefbbaa
