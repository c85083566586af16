/- More rules: rows that a function hands out as the caller's own; facts that tell a block's type. -/
import Derived.Test.YtcbpgnjlbbjieaaDoorMsgBase
set_option linter.unusedVariables false
set_option linter.unusedSimpArgs false
namespace Go.Sx
/-- A slice whose cells lie in a block of this type, somewhere. -/
def SlT (T : TypeId) (sz : Nat) (w : World) (v : Value) (n : Nat) (ks : List Value) : Prop :=
  (n = 0 ∧ ks = [] ∧ ∃ a c, v = .slice a 0 c) ∨ ∃ g pre r c, v = .slice (some ⟨g, pre.length, none⟩) n c ∧ ks.length = n * sz ∧ w.heap[g]? = some (row T (pre ++ (ks ++ r)))
theorem SlT.toC {T : TypeId} {sz : Nat} {w : World} {v : Value} {n : Nat} {ks : List Value} (h : SlT T sz w v n ks) : SlC sz w v n ks := by
  rcases h with ⟨rfl, rfl, a, c, rfl⟩ | ⟨g, pre, r, c, rfl, hl, hg⟩
  · exact .inl ⟨rfl, rfl, a, c, rfl⟩
  · refine .inr ⟨g, pre.length, c, rfl, hl, fun j x hj => ?_⟩
    have hjl : j < ks.length := (List.getElem?_eq_some_iff.1 hj).1
    refine cell_of (off := pre.length + j) hg ?_
    show (pre ++ (ks ++ r)).toArray[pre.length + j]? = some x
    rw [List.getElem?_toArray, List.getElem?_append_right (by omega), Nat.add_sub_cancel_left, List.getElem?_append_left hjl]
    exact hj
def factT (T : TypeId) (sz : Nat) (v : Value) (n : Nat) (ks : List Value) : Fact where
  fp k := ks ≠ [] ∧ ∃ off c, v = .slice (some ⟨k, off, none⟩) n c
  p w := SlT T sz w v n ks ∧ (ks = [] → n = 0)
  dep w w' h hp := by
    refine ⟨?_, hp.2⟩
    rcases hp.1 with h1 | ⟨g, pre, r, c, rfl, hl, hg⟩
    · exact .inl h1
    · by_cases hk : ks = []
      · exact .inl ⟨hp.2 hk, hk, _, _, by rw [hp.2 hk]⟩
      · exact .inr ⟨g, pre, r, c, rfl, hl, by rw [h g ⟨hk, _, _, rfl⟩]; exact hg⟩
theorem FA.toC {w : World} {T : TypeId} {sz n : Nat} {v : Value} {ks : List Value} (h : FA w (factT T sz v n ks)) : FA w (factC sz v n ks) := .slc h.1.1.toC
/-- Such a row, new. -/
structure NewO (T : TypeId) (sz : Nat) (w w' : World) (q : OwnR) (n : Nat) (ks : List Value) : Prop where
  own : OwnC sz q n ks
  at_ : ∀ g o, (g, o) ∈ ownM T q ks → w'.heap[g]? = some o ∧ w.heap.size ≤ g
theorem NewO.fact {T : TypeId} {sz : Nat} {w w' : World} {q : OwnR} {n : Nat} {ks : List Value} (h : NewO T sz w w' q n ks) (hsz : 0 < sz) : NewF w w' (factT T sz (.slice (oA q) n (oC q)) n ks) := by
  cases q with
  | none =>
    obtain ⟨h1, h2⟩ := h.own
    subst h1; subst h2
    exact ⟨⟨⟨.inl ⟨rfl, rfl, _, _, rfl⟩, fun _ => rfl⟩, fun k hk => absurd rfl hk.1⟩, fun k hk => absurd rfl hk.1⟩
  | some q =>
    obtain ⟨g, c, r⟩ := q
    obtain ⟨h1, h2, h3⟩ := h.own
    obtain ⟨h4, h5⟩ := h.at_ g (row T (ks ++ r)) (by simp [ownM])
    have hlt : g < w'.heap.size := (Array.getElem?_eq_some_iff.1 h4).1
    have e : ∀ k, (factT T sz (.slice (some ⟨g, 0, none⟩) n c) n ks).fp k → k = g := by
      rintro k ⟨_, off, c', he⟩
      simp only [Value.slice.injEq, Option.some.injEq, Addr.mk.injEq] at he
      exact he.1.1.symm
    refine ⟨⟨⟨.inr ⟨g, [], r, c, rfl, h1, h4⟩, fun hk => ?_⟩, fun k hk => e k hk ▸ hlt⟩, fun k hk => e k hk ▸ h5⟩
    rw [hk] at h1
    have : n * sz = 0 := h1.symm
    rcases Nat.mul_eq_zero.1 this with h | h
    · exact h
    · omega
theorem OkW.addOwn {cx : Cx} {m : Mem} {fs : List Fact} {w w' : World} (h : OkW cx m fs w) (hfr : Fr [] w w') {T : TypeId} {sz n : Nat} {q : OwnR} {ks : List Value} (hq : NewO T sz w w' q n ks) : OkW cx (m ++ ownM T q ks) fs w' := by
  cases q with
  | none =>
    show OkW cx (m ++ []) fs w'
    rw [List.append_nil]
    exact h.fr0 hfr
  | some q =>
    obtain ⟨g, c, r⟩ := q
    obtain ⟨h4, h5⟩ := hq.at_ g (row T (ks ++ r)) (by simp [ownM])
    exact h.add hfr h4 h5
/-- One's own row at the end of a function is new. -/
theorem NewO.of {cx : Cx} {m : Mem} {fs : List Fact} {w : World} (h : OkW cx m fs w) (hm : cx.mods = []) {T : TypeId} {sz n : Nat} {q : OwnR} {ks : List Value} (hq : OwnC sz q n ks) (hs : ∀ x ∈ ownM T q ks, x ∈ m) : NewO T sz cx.w0 w q n ks :=
  ⟨hq, fun g o hg => ⟨h.mem g o (hs _ hg), by
    rcases h.may g (List.mem_map.2 ⟨_, hs _ hg, rfl⟩) with h1 | h1
    · exact h1
    · rw [hm] at h1; cases h1⟩⟩
/-- Blocks and facts that a function has laid anew. -/
structure NewL (w w' : World) (l : Mem) (gs : List Fact) : Prop where
  at_ : ∀ g o, (g, o) ∈ l → w'.heap[g]? = some o ∧ w.heap.size ≤ g
  nd : (l.map (·.1)).Nodup
  fa : ∀ f ∈ gs, NewF w w' f
  dis : ∀ f ∈ gs, ∀ k, f.fp k → k ∉ l.map (·.1)
theorem OkW.addL {cx : Cx} {m : Mem} {fs : List Fact} {w w' : World} (h : OkW cx m fs w) (hfr : Fr [] w w') {l : Mem} {gs : List Fact} (hb : NewL w w' l gs) : OkW cx (m ++ l) (fs ++ gs) w' := by
  have hnew : ∀ k ∈ l.map (·.1), w.heap.size ≤ k := fun k hk => by
    obtain ⟨⟨g, o⟩, hg, rfl⟩ := List.mem_map.1 hk
    exact (hb.at_ g o hg).2
  have hdis : ((m ++ l).map (·.1)).Nodup := by
    rw [List.map_append, List.nodup_append]
    refine ⟨h.dis, hb.nd, fun a ha c hc e => ?_⟩
    have := h.lt ha
    have := hnew c hc
    omega
  refine ⟨fun b o hbo => ?_, hdis, fun b hbm => ?_, fun f hf => ?_, h.fr.step hfr (by simp)⟩
  · rcases List.mem_append.1 hbo with h1 | h1
    · exact (hfr.block b (h.lt (List.mem_map.2 ⟨_, h1, rfl⟩)) (by simp)).trans (h.mem b o h1)
    · exact (hb.at_ b o h1).1
  · rw [List.map_append] at hbm
    rcases List.mem_append.1 hbm with h1 | h1
    · exact h.may b h1
    · exact .inl (Nat.le_trans h.fr.size (hnew b h1))
  · rcases List.mem_append.1 hf with h1 | h1
    · obtain ⟨h2, h3⟩ := h.facts f h1
      refine ⟨f.dep w w' (fun k hk => hfr.block k (h3 k hk).1 (by simp)) h2, fun k hk => ⟨Nat.lt_of_lt_of_le (h3 k hk).1 hfr.size, fun hkm => ?_⟩⟩
      rw [List.map_append] at hkm
      rcases List.mem_append.1 hkm with h4 | h4
      · exact (h3 k hk).2 h4
      · have := hnew k h4
        have := (h3 k hk).1
        omega
    · have h2 := hb.fa f h1
      refine ⟨h2.fa.1, fun k hk => ⟨h2.fa.2 k hk, fun hkm => ?_⟩⟩
      rw [List.map_append] at hkm
      rcases List.mem_append.1 hkm with h4 | h4
      · have := h.lt h4
        have := h2.new k hk
        omega
      · exact hb.dis f h1 k hk h4
theorem NewL.of {cx : Cx} {m : Mem} {fs : List Fact} {w : World} (h : OkW cx m fs w) (hm : cx.mods = []) {l : Mem} {gs : List Fact} (hl : List.Sublist l m) (hg : ∀ f ∈ gs, f ∈ fs) (hn : ∀ f ∈ gs, ∀ k, f.fp k → cx.w0.heap.size ≤ k) : NewL cx.w0 w l gs where
  at_ g o hgo := ⟨h.mem g o (hl.subset hgo), by
    rcases h.may g (List.mem_map.2 ⟨_, hl.subset hgo, rfl⟩) with h1 | h1
    · exact h1
    · rw [hm] at h1; cases h1⟩
  nd := (hl.map _).nodup h.dis
  fa f hf := ⟨⟨(h.facts f (hg f hf)).1, fun k hk => ((h.facts f (hg f hf)).2 k hk).1⟩, hn f hf⟩
  dis f hf k hk hkm := ((h.facts f (hg f hf)).2 k hk).2 ((hl.map _).subset hkm)
theorem NewL.all {w w' : World} {l : Mem} {gs hs : List Fact} (h : NewL w w' l (gs ++ hs)) : NewL w w' l (gs ++ [allF hs]) where
  at_ := h.at_
  nd := h.nd
  fa f hf := by
    rcases List.mem_append.1 hf with h1 | h1
    · exact h.fa f (List.mem_append_left _ h1)
    · obtain rfl := List.mem_singleton.1 h1
      exact .all fun f hf => h.fa f (List.mem_append_right _ hf)
  dis f hf k hk := by
    rcases List.mem_append.1 hf with h1 | h1
    · exact h.dis f (List.mem_append_left _ h1) k hk
    · obtain rfl := List.mem_singleton.1 h1
      obtain ⟨g, hg, hk⟩ := hk
      exact h.dis g (List.mem_append_right _ hg) k hk
theorem NewO.toL {w w' : World} {T : TypeId} {sz n : Nat} {q : OwnR} {ks : List Value} (h : NewO T sz w w' q n ks) : NewL w w' (ownM T q ks) [] where
  at_ := h.at_
  nd := by rcases q with _ | ⟨g, c, r⟩ <;> simp [ownM]
  fa _ hf := nomatch hf
  dis _ hf := nomatch hf
theorem FA.nilC {w : World} {sz n : Nat} {a : Option Addr} {c : Nat} {ks : List Value} (h : FA w (factC sz (.slice a n c) n ks)) (ha : a = none) : n = 0 ∧ ks = [] := by
  rcases h.1 with ⟨h1, h2, _⟩ | ⟨b, off, c', h1, _⟩
  · exact ⟨h1, h2⟩
  · subst ha
    simp at h1
section
variable {cx : Cx} {o : Oper} {st : St}
theorem V_max {x y : Operand} {at_ : Array TypeId} {k k' : IntKind} {m n r : Int} (ho : o.op = .call { callee := .builtin .max, args := #[x, y], argTypes := at_ }) (hx : ev st.env x = some (.int k m)) (hy : ev st.env y = some (.int k' n)) (hr : (if m < n then n else m) = r) : V cx o st (.int k r) :=
  V_builtin ho (vs := [.int k m, .int k' n]) (by simp [evs, hx, hy]) fun cs w _ => by
    subst hr
    simp only [builtin, Sem.run_bind, run_max_int2, Result.andThen_ok, Sem.run_pure]
end
end Go.Sx
