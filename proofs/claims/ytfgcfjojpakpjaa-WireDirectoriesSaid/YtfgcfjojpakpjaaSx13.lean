/- More rules: a row of one's own becomes a fact. -/
import Derived.Test.YtfgcfjojpakpjaaSx12
set_option linter.unusedVariables false
set_option linter.unusedSimpArgs false
namespace Go.Sx
section
variable {cx : Cx} {Kx : Exit → St → Prop} {st : St}
theorem OkW.toFactC {m : Mem} {fs : List Fact} {w : World} {q : OwnR} {U : TypeId} {sz n : Nat} {ks : List Value} (h : OkW cx (m ++ ownM U q ks) fs w) (hq : OwnC sz q n ks) : OkW cx m (fs ++ [factC sz (ownV q n) n ks]) w := by
  have h1 := h.sub (List.sublist_append_left _ _) (fun f hf => hf)
  refine ⟨h1.mem, h1.dis, h1.may, fun f hf => ?_, h1.fr⟩
  rcases List.mem_append.1 hf with hf | hf
  · exact h1.facts f hf
  · obtain rfl := List.mem_singleton.1 hf
    have hs : SlC sz w (ownV q n) n ks := SlC.ofM h (fun p hp => List.mem_append_right _ hp) hq
    refine ⟨hs, fun k hk => ⟨factC_lt hs k hk, ?_⟩⟩
    obtain ⟨hne, off, n', c', e⟩ := hk
    cases q with
    | none => exact absurd hq.2 hne
    | some q =>
      obtain ⟨g, c0, r⟩ := q
      simp only [ownV, oA, oC, Value.slice.injEq, Option.some.injEq, Addr.mk.injEq] at e
      obtain ⟨⟨rfl, _⟩, _⟩ := e
      have := h.dis
      rw [List.map_append, List.nodup_append] at this
      intro hm
      exact this.2.2 _ hm _ (by simp [ownM]) rfl
theorem own_fp {m : Mem} {fs : List Fact} {w : World} {q : OwnR} {U : TypeId} {sz n : Nat} {ks : List Value} (h : OkW cx m fs w) (hm : ∀ p ∈ ownM U q ks, p ∈ m) (hq : OwnC sz q n ks) : ∀ k, (factC sz (ownV q n) n ks).fp k → cx.w0.heap.size ≤ k ∨ k ∈ cx.mods := by
  rintro k ⟨hne, off, n', c', e⟩
  cases q with
  | none => exact absurd hq.2 hne
  | some q =>
    obtain ⟨g, c0, r⟩ := q
    simp only [ownV, oA, oC, Value.slice.injEq, Option.some.injEq, Addr.mk.injEq] at e
    obtain ⟨⟨rfl, _⟩, _⟩ := e
    exact h.may _ (List.mem_map.2 ⟨_, hm (g, row U (ks ++ r)) (by simp [ownM]), rfl⟩)
theorem J_toFactC {c : Code} (m : Mem) {q : OwnR} {U : TypeId} {sz n : Nat} {ks : List Value} (hm : st.mem = m ++ ownM U q ks) (hq : OwnC sz q n ks) (h : (∀ k, (factC sz (ownV q n) n ks).fp k → cx.w0.heap.size ≤ k ∨ k ∈ cx.mods) → J cx c Kx { st with mem := m, facts := st.facts ++ [factC sz (ownV q n) n ks] }) : J cx c Kx st := by
  intro a w ho
  have hw := ho.w
  rw [hm] at hw
  exact h (own_fp hw (fun p hp => List.mem_append_right _ hp) hq) a w ⟨ho.a, hw.toFactC hq⟩
theorem own_fact0 {m : Mem} {fs : List Fact} {w : World} {sz n : Nat} {q : OwnR} {ks : List Value} {T : TypeId} (h : OkW cx m fs w) (hm : cx.mods = []) (hs : ∀ x ∈ ownM T q ks, x ∈ m) (hq : OwnC sz q n ks) :
    (factC sz (ownV q n) n ks).p w ∧ ∀ k, (factC sz (ownV q n) n ks).fp k → cx.w0.heap.size ≤ k ∧ k < w.heap.size := by
  have h1 : SlC sz w (ownV q n) n ks := SlC.ofM h hs hq
  refine ⟨h1, fun k hk => ⟨?_, factC_lt h1 k hk⟩⟩
  rcases own_fp h hs hq k hk with h2 | h2
  · exact h2
  · rw [hm] at h2; cases h2
end
end Go.Sx
