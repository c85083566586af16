/- More rules: a row of one's own becomes a fact. -/
import Derived.Test.YtcbpgnjlbbjieaaDoorSx12
set_option linter.unusedVariables false
set_option linter.unusedSimpArgs false
namespace Go.Sx
section
variable {cx : Cx} {Kx : Exit → St → Prop} {st : St}
theorem OkW.toFactC {m : Mem} {fs : List Fact} {w : World} {q : OwnR} {U : TypeId} {sz n : Nat} {ks : List Value} (h : OkW cx (m ++ ownM U q ks) fs w) (hq : OwnC sz q n ks) : OkW cx m (fs ++ [factC sz (ownV q n) n ks]) w := by
  have h1 := h.sub (List.sublist_append_left _ _) (fun f hf => hf)
  refine ⟨h1.mem, h1.dis, h1.may, fun f hf => ?_, h1.fr⟩
  rcases List.mem_append.1 hf with hf | hf
  · exact h1.facts f hf
  · obtain rfl := List.mem_singleton.1 hf
    have hs : SlC sz w (ownV q n) n ks := SlC.ofM h (fun p hp => List.mem_append_right _ hp) hq
    refine ⟨hs, fun k hk => ⟨factC_lt hs k hk, ?_⟩⟩
    obtain ⟨hne, off, n', c', e⟩ := hk
    cases q with
    | none => exact absurd hq.2 hne
    | some q =>
      obtain ⟨g, c0, r⟩ := q
      simp only [ownV, oA, oC, Value.slice.injEq, Option.some.injEq, Addr.mk.injEq] at e
      obtain ⟨⟨rfl, _⟩, _⟩ := e
      have := h.dis
      rw [List.map_append, List.nodup_append] at this
      intro hm
      exact this.2.2 _ hm _ (by simp [ownM]) rfl
theorem own_fp {m : Mem} {fs : List Fact} {w : World} {q : OwnR} {U : TypeId} {sz n : Nat} {ks : List Value} (h : OkW cx m fs w) (hm : ∀ p ∈ ownM U q ks, p ∈ m) (hq : OwnC sz q n ks) : ∀ k, (factC sz (ownV q n) n ks).fp k → cx.w0.heap.size ≤ k ∨ k ∈ cx.mods := by
  rintro k ⟨hne, off, n', c', e⟩
  cases q with
  | none => exact absurd hq.2 hne
  | some q =>
    obtain ⟨g, c0, r⟩ := q
    simp only [ownV, oA, oC, Value.slice.injEq, Option.some.injEq, Addr.mk.injEq] at e
    obtain ⟨⟨rfl, _⟩, _⟩ := e
    exact h.may _ (List.mem_map.2 ⟨_, hm (g, row U (ks ++ r)) (by simp [ownM]), rfl⟩)
theorem J_toFactC {c : Code} (m : Mem) {q : OwnR} {U : TypeId} {sz n : Nat} {ks : List Value} (hm : st.mem = m ++ ownM U q ks) (hq : OwnC sz q n ks) (h : (∀ k, (factC sz (ownV q n) n ks).fp k → cx.w0.heap.size ≤ k ∨ k ∈ cx.mods) → J cx c Kx { st with mem := m, facts := st.facts ++ [factC sz (ownV q n) n ks] }) : J cx c Kx st := by
  intro a w ho
  have hw := ho.w
  rw [hm] at hw
  exact h (own_fp hw (fun p hp => List.mem_append_right _ hp) hq) a w ⟨ho.a, hw.toFactC hq⟩
theorem J_toFactD {c : Code} (m : Mem) {q : OwnR} {U : TypeId} {sz n : Nat} {ks : List Value} (hm : st.mem = m ++ ownM U q ks) (hq : OwnC sz q n ks) (h : (∀ k, (factC sz (ownV q n) n ks).fp k → (cx.w0.heap.size ≤ k ∨ k ∈ cx.mods) ∧ k ∉ m.map (·.1)) → J cx c Kx { st with mem := m, facts := st.facts ++ [factC sz (ownV q n) n ks] }) : J cx c Kx st := by
  intro a w ho
  have hw := ho.w
  rw [hm] at hw
  have h2 := hw.toFactC hq
  exact h (fun k hk => ⟨own_fp hw (fun p hp => List.mem_append_right _ hp) hq k hk, ((h2.facts _ (List.mem_append_right _ (List.mem_singleton.2 rfl))).2 k hk).2⟩) a w ⟨ho.a, h2⟩
theorem own_fact0 {m : Mem} {fs : List Fact} {w : World} {sz n : Nat} {q : OwnR} {ks : List Value} {T : TypeId} (h : OkW cx m fs w) (hm : cx.mods = []) (hs : ∀ x ∈ ownM T q ks, x ∈ m) (hq : OwnC sz q n ks) :
    (factC sz (ownV q n) n ks).p w ∧ ∀ k, (factC sz (ownV q n) n ks).fp k → cx.w0.heap.size ≤ k ∧ k < w.heap.size := by
  have h1 : SlC sz w (ownV q n) n ks := SlC.ofM h hs hq
  refine ⟨h1, fun k hk => ⟨?_, factC_lt h1 k hk⟩⟩
  rcases own_fp h hs hq k hk with h2 | h2
  · exact h2
  · rw [hm] at h2; cases h2
/-- What was handed out as a row with room behind it is one's own from now on. -/
theorem J_toOwn {c : Code} {v : Value} {l : List Int} (fs' : List Fact) (hm : factR v l ∈ st.facts) (hne : l ≠ []) (hfresh : ∀ k, (factB v l).fp k → cx.w0.heap.size ≤ k) (hsub : ∀ f ∈ fs', f ∈ st.facts) (hold : ∀ f ∈ fs', ∀ k, f.fp k → k < cx.w0.heap.size)
    (h : ∀ g c' r, v = .slice (some ⟨g, 0, none⟩) l.length c' → r.length = c' - l.length → l.length ≤ c' → J cx c Kx { st with mem := st.mem ++ [(g, row 5 (dg l ++ r))], facts := fs' }) : J cx c Kx st := by
  intro a w ho
  obtain ⟨hp, hfp⟩ := ho.w.facts _ hm
  rcases hp with ⟨h0, _⟩ | ⟨_, g, c', r, rfl, hg, hr, hc⟩
  · exact absurd h0 hne
  · have hgf : (factB (.slice (some ⟨g, 0, none⟩) l.length c') l).fp g := ⟨hne, _, _, _, rfl⟩
    have hgm := (hfp g hgf).2
    have hg0 := hfresh g hgf
    refine h g c' r rfl hr hc a w ⟨ho.a, ?_⟩
    refine ⟨fun b o hb => ?_, ?_, fun b hb => ?_, fun f hf => ⟨(ho.w.facts f (hsub f hf)).1, fun k hk => ⟨((ho.w.facts f (hsub f hf)).2 k hk).1, fun hkm => ?_⟩⟩, ho.w.fr⟩
    · rcases List.mem_append.1 hb with hb | hb
      · exact ho.w.mem b o hb
      · simp only [List.mem_singleton, Prod.mk.injEq] at hb
        obtain ⟨rfl, rfl⟩ := hb
        exact hg
    · rw [List.map_append, List.nodup_append]
      refine ⟨ho.w.dis, by simp, fun x hx y hy => ?_⟩
      simp only [List.map_cons, List.map_nil, List.mem_singleton] at hy
      subst hy
      exact fun e => hgm (e ▸ hx)
    · rw [List.map_append] at hb
      rcases List.mem_append.1 hb with hb | hb
      · exact ho.w.may b hb
      · simp only [List.map_cons, List.map_nil, List.mem_singleton] at hb
        subst hb
        exact .inl hg0
    · rw [List.map_append] at hkm
      rcases List.mem_append.1 hkm with hb | hb
      · exact ((ho.w.facts f (hsub f hf)).2 k hk).2 hb
      · simp only [List.map_cons, List.map_nil, List.mem_singleton] at hb
        subst hb
        have := hold f hf k hk
        omega
end
end Go.Sx
