/- Facts that go together; lists that are held against one another; rows of structs: no program in sight. -/
import Derived.Test.YtcbpgnjlbbjieaaDoorSx15
import Derived.Test.YtcbpgnjlbbjieaaDoorEqGen
set_option linter.unusedVariables false
set_option linter.unusedSimpArgs false
namespace Go.Sx
/-- A fact that holds of what is there. -/
def FA (w : World) (f : Fact) : Prop := f.p w ∧ ∀ k, f.fp k → k < w.heap.size
def FW (w : World) (fs : List Fact) : Prop := ∀ f ∈ fs, FA w f
theorem FW.nil {w : World} : FW w [] := by intro f hf; cases hf
theorem FW.cons {w : World} {f : Fact} {fs : List Fact} (h : FA w f) (h2 : FW w fs) : FW w (f :: fs) := by
  intro g hg
  rcases List.mem_cons.1 hg with rfl | hg
  · exact h
  · exact h2 g hg
theorem FW.app {w : World} {fs gs : List Fact} (h : FW w fs) (h2 : FW w gs) : FW w (fs ++ gs) := by
  intro f hf
  rcases List.mem_append.1 hf with h1 | h1
  · exact h f h1
  · exact h2 f h1
theorem FA.fr {w w' : World} {f : Fact} (h : FA w f) (hf : Fr [] w w') : FA w' f :=
  ⟨f.dep w w' (fun k hk => hf.block k (h.2 k hk) (by simp)) h.1, fun k hk => Nat.lt_of_lt_of_le (h.2 k hk) hf.size⟩
theorem FA.slc {w : World} {sz n : Nat} {v : Value} {cs : List Value} (h : SlC sz w v n cs) : FA w (factC sz v n cs) := ⟨h, factC_lt h⟩
def andF (f g : Fact) : Fact where
  fp k := f.fp k ∨ g.fp k
  p w := f.p w ∧ g.p w
  dep w w' h hp := ⟨f.dep w w' (fun k hk => h k (.inl hk)) hp.1, g.dep w w' (fun k hk => h k (.inr hk)) hp.2⟩
def allF (fs : List Fact) : Fact where
  fp k := ∃ f ∈ fs, f.fp k
  p w := ∀ f ∈ fs, f.p w
  dep w w' h hp f hf := f.dep w w' (fun k hk => h k ⟨f, hf, hk⟩) (hp f hf)
theorem FA.and {w : World} {f g : Fact} (h1 : FA w f) (h2 : FA w g) : FA w (andF f g) := ⟨⟨h1.1, h2.1⟩, fun k hk => hk.elim (h1.2 k) (h2.2 k)⟩
theorem FA.l {w : World} {f g : Fact} (h : FA w (andF f g)) : FA w f := ⟨h.1.1, fun k hk => h.2 k (.inl hk)⟩
theorem FA.r {w : World} {f g : Fact} (h : FA w (andF f g)) : FA w g := ⟨h.1.2, fun k hk => h.2 k (.inr hk)⟩
theorem FA.of {w : World} {fs : List Fact} {f : Fact} (h : FA w (allF fs)) (hf : f ∈ fs) : FA w f := ⟨h.1 f hf, fun k hk => h.2 k ⟨f, hf, hk⟩⟩
theorem FA.all {w : World} {fs : List Fact} (h : FW w fs) : FA w (allF fs) := ⟨fun f hf => (h f hf).1, fun k ⟨f, hf, hk⟩ => (h f hf).2 k hk⟩
theorem OkW.fa {cx : Cx} {m : Mem} {fs : List Fact} {w : World} (h : OkW cx m fs w) (i : Nat) {f : Fact} (hi : fs[i]? = some f) : FA w f :=
  ⟨(h.facts _ (List.mem_of_getElem? hi)).1, fun k hk => ((h.facts _ (List.mem_of_getElem? hi)).2 k hk).1⟩
theorem okFW {P : Program} {nt : Nat} {w : World} {fs : List Fact} (h : FW w fs) : OkW { P := P, w0 := w, nt := nt, mods := [] } [] fs w := okW_facts h
/-- A fact about what was there when the call began. -/
theorem OkW.putF {cx : Cx} {m : Mem} {fs : List Fact} {w : World} (h : OkW cx m fs w) (hm : cx.mods = []) {f : Fact} (hf : FA cx.w0 f) : OkW cx m (fs ++ [f]) w := by
  refine ⟨h.mem, h.dis, h.may, fun g hg => ?_, h.fr⟩
  rcases List.mem_append.1 hg with h2 | h2
  · exact h.facts g h2
  · obtain rfl := List.mem_singleton.1 h2
    have hfr := h.fr
    rw [hm] at hfr
    have h3 := hf.fr hfr
    refine ⟨h3.1, fun k hk => ⟨h3.2 k hk, fun hkm => ?_⟩⟩
    rcases h.may k hkm with h4 | h4
    · have := hf.2 k hk
      omega
    · rw [hm] at h4; cases h4
/-- A fact about blocks that a call has laid. -/
theorem OkW.newF {cx : Cx} {m : Mem} {fs : List Fact} {w w' : World} (h : OkW cx m fs w) (hfr : Fr [] w w') {f : Fact} (hf : FA w' f) (hn : ∀ k, f.fp k → w.heap.size ≤ k) : OkW cx m (fs ++ [f]) w' := by
  have h1 := h.fr0 hfr
  refine ⟨h1.mem, h1.dis, h1.may, fun g hg => ?_, h1.fr⟩
  rcases List.mem_append.1 hg with h2 | h2
  · exact h1.facts g h2
  · obtain rfl := List.mem_singleton.1 h2
    refine ⟨hf.1, fun k hk => ⟨hf.2 k hk, fun hm => ?_⟩⟩
    have := h.lt hm
    have := hn k hk
    omega
theorem all_one {l : List Value} (h : l.all (·.oneCell') = true) : ∀ u ∈ l, u.oneCell' = true := fun u hu => List.all_eq_true.1 h u hu
theorem take_s {α : Type} {l : List α} {i : Nat} (d : α) (h : i < l.length) : l.take (i + 1) = l.take i ++ [l.getD i d] := by
  rw [List.take_add_one, List.getD_eq_getElem?_getD, List.getElem?_eq_getElem h]
  rfl
theorem getD_mem {α : Type} {l : List α} {i : Nat} {d : α} (h : i < l.length) : l.getD i d ∈ l := by
  rw [List.getD_eq_getElem?_getD, List.getElem?_eq_getElem h]
  exact List.getElem_mem h
theorem getD_map' {α β : Type} (f : α → β) {l : List α} {i : Nat} (d : α) (e : β) (h : i < l.length) : (l.map f).getD i e = f (l.getD i d) := by
  rw [List.getD_eq_getElem?_getD, List.getD_eq_getElem?_getD, List.getElem?_map, List.getElem?_eq_getElem h]
  rfl
theorem flat_get' {α : Type} {f : α → List Value} {sz : Nat} (hf : ∀ x, (f x).length = sz) : ∀ {l : List α} {i : Nat} (d : α) (k : Nat), i < l.length → k < sz → (l.map f).flatten[i * sz + k]? = (f (l.getD i d))[k]?
  | [], i, d, k, h, hk => by simp at h
  | x :: l, 0, d, k, h, hk => by
    rw [List.map_cons, List.flatten_cons, Nat.zero_mul, Nat.zero_add, List.getElem?_append_left (by rw [hf]; exact hk)]
    rfl
  | x :: l, i + 1, d, k, h, hk => by
    have hadd : (i + 1) * sz + k = sz + (i * sz + k) := by rw [Nat.add_mul]; omega
    rw [List.map_cons, List.flatten_cons, hadd, List.getElem?_append_right (by rw [hf]; omega), hf, show sz + (i * sz + k) - sz = i * sz + k by omega, flat_get' hf d k (by simpa using h) hk]
    rfl
theorem rows_v {α : Type} {f : α → List Value} {sz : Nat} {l : List α} {i : Nat} (d : α) (hf : ∀ x, (f x).length = sz + 1) (h : i < l.length) : ∀ (k : Nat) (u : Value), (f (l.getD i d))[k]? = some u → (l.map f).flatten[((i : Nat) : Int).toNat * (sz + 1) + k]? = some u := by
  intro k u hu
  have hk : k < sz + 1 := by rw [← hf (l.getD i d)]; exact (List.getElem?_eq_some_iff.1 hu).1
  rw [Int.toNat_natCast, flat_get' hf d k h hk]
  exact hu
theorem rows_1 {k : IntKind} {l : List Int} {i : Nat} (h : i < l.length) : (l.map (Value.int k))[((i : Nat) : Int).toNat * (0 + 1)]? = some (.int k (l.getD i 0)) := by
  rw [Int.toNat_natCast, Nat.zero_add, Nat.mul_one, List.getElem?_map, List.getElem?_eq_getElem h, List.getD_eq_getElem?_getD, List.getElem?_eq_getElem h]
  rfl
/-! ### Two lists, element by element -/
section
variable {α : Type} {a b : List α} {i : Nat}
theorem eqs_step (d : α) (h1 : i < a.length) (h2 : i < b.length) (ht : a.take i = b.take i) (he : a.getD i d = b.getD i d) : a.take (i + 1) = b.take (i + 1) := by
  rw [take_s d h1, take_s d h2, ht, he]
theorem eqs_ne (d : α) (he : a.getD i d ≠ b.getD i d) : ¬ a = b := fun h => he (by rw [h])
theorem eqs_len (h : a.length ≠ b.length) : ¬ a = b := fun h' => h (by rw [h'])
theorem eqs_all (hl : a.length = b.length) (h : a.length ≤ i) (ht : a.take i = b.take i) : a = b := by
  rwa [List.take_of_length_le h, List.take_of_length_le (by omega)] at ht
end
/-- A fact about new blocks alone. -/
structure NewF (w w' : World) (f : Fact) : Prop where
  fa : FA w' f
  new : ∀ k, f.fp k → w.heap.size ≤ k
theorem NewF.and {w w' : World} {f g : Fact} (h1 : NewF w w' f) (h2 : NewF w w' g) : NewF w w' (andF f g) := ⟨h1.fa.and h2.fa, fun k hk => hk.elim (h1.new k) (h2.new k)⟩
theorem NewF.l {w w' : World} {f g : Fact} (h : NewF w w' (andF f g)) : NewF w w' f := ⟨h.fa.l, fun k hk => h.new k (.inl hk)⟩
theorem NewF.r {w w' : World} {f g : Fact} (h : NewF w w' (andF f g)) : NewF w w' g := ⟨h.fa.r, fun k hk => h.new k (.inr hk)⟩
theorem NewF.all {w w' : World} {fs : List Fact} (h : ∀ f ∈ fs, NewF w w' f) : NewF w w' (allF fs) := ⟨.all fun f hf => (h f hf).fa, fun k ⟨f, hf, hk⟩ => (h f hf).new k hk⟩
theorem OkW.newN {cx : Cx} {m : Mem} {fs : List Fact} {w w' : World} (h : OkW cx m fs w) (hfr : Fr [] w w') {f : Fact} (hf : NewF w w' f) : OkW cx m (fs ++ [f]) w' := h.newF hfr hf.fa hf.new
/-- What is told at the end of facts that were learned on the way. -/
theorem NewF.at {cx : Cx} {m : Mem} {fs : List Fact} {w : World} (h : OkW cx m fs w) (i : Nat) {f : Fact} (hi : fs[i]? = some f) (hn : ∀ k, f.fp k → cx.w0.heap.size ≤ k) : NewF cx.w0 w f := ⟨h.fa i hi, hn⟩
/-- A row of one's own, at the end. -/
theorem NewF.own {cx : Cx} {m : Mem} {fs : List Fact} {w : World} {sz n : Nat} {q : OwnR} {ks : List Value} {T : TypeId} (h : OkW cx m fs w) (hm : cx.mods = []) (hs : ∀ x ∈ ownM T q ks, x ∈ m) (hq : OwnC sz q n ks) : NewF cx.w0 w (factC sz (.slice (oA q) n (oC q)) n ks) := by
  have h1 : SlC sz w (ownV q n) n ks := SlC.ofM h hs hq
  refine ⟨⟨h1, factC_lt h1⟩, fun k hk => ?_⟩
  rcases own_fp h hs hq k hk with h2 | h2
  · exact h2
  · rw [hm] at h2; cases h2
theorem one_map {α : Type} {f : α → List Value} (h : ∀ x, (f x).all (·.oneCell') = true) (l : List α) : ∀ u ∈ (l.map f).flatten, u.oneCell' = true := fun u hu => by
  obtain ⟨e, he, hu⟩ := List.mem_flatten.1 hu
  obtain ⟨x, _, rfl⟩ := List.mem_map.1 he
  exact all_one (h x) u hu
theorem one_ints {k : IntKind} (l : List Int) : ∀ u ∈ l.map (Value.int k), u.oneCell' = true := fun u hu => by
  obtain ⟨x, _, rfl⟩ := List.mem_map.1 hu
  rfl
end Go.Sx
