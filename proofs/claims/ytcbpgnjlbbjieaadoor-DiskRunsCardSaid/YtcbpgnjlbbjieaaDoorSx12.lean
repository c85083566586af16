/- More rules: what reads of a reader, and throws if it can't. -/
import Derived.Test.YtcbpgnjlbbjieaaDoorSx11
set_option linter.unusedVariables false
set_option linter.unusedSimpArgs false
namespace Go.Sx
/-- A call that reads of the reader in block rb: what it hands back, and what is known of it; or it throws. -/
def InP {α : Type} (RD S : TypeId) (w : World) (rb : Nat) (u0 : Value) (l0 : List Int) (o : Option (α × List Int)) (V : α → Value → List Fact → Prop) : Ending → World → Prop := fun e w' => Fr [rb] w w' ∧ match o with
  | some (x, l') => ∃ v fs a n c, e = .returned v ∧ V x v fs ∧ (∀ f ∈ fs, f.p w' ∧ ∀ k, f.fp k → w.heap.size ≤ k ∧ k < w'.heap.size) ∧ w'.heap[rb]? = some (row RD [.slice a n c]) ∧ n ≤ c ∧ ∀ W, SlB W u0 l0 → SlB W (.slice a n c) l'
  | none => e = .panicked [stp S 60]
theorem InP.no {α : Type} {RD S : TypeId} {w w' : World} {rb : Nat} {u0 : Value} {l0 : List Int} {o : Option (α × List Int)} {V : α → Value → List Fact → Prop} (ho : o = none) (hfr : Fr [rb] w w') : InP RD S w rb u0 l0 o V (.panicked [stp S 60]) w' := by
  subst ho
  exact ⟨hfr, rfl⟩
theorem InP.yes {α : Type} {RD S : TypeId} {w w' : World} {rb : Nat} {u0 : Value} {l0 : List Int} {o : Option (α × List Int)} {V : α → Value → List Fact → Prop} {x : α} {l' : List Int} {v : Value} {fs : List Fact} {a : Option Addr} {n c : Nat} (ho : o = some (x, l')) (hfr : Fr [rb] w w') (hV : V x v fs)
    (hfs : ∀ f ∈ fs, f.p w' ∧ ∀ k, f.fp k → w.heap.size ≤ k ∧ k < w'.heap.size) (hb : w'.heap[rb]? = some (row RD [.slice a n c])) (hc : n ≤ c) (hs : ∀ W, SlB W u0 l0 → SlB W (.slice a n c) l') : InP RD S w rb u0 l0 o V (.returned v) w' := by
  subst ho
  exact ⟨hfr, v, fs, a, n, c, rfl, hV, hfs, hb, hc, hs⟩
section
variable {cx : Cx} {ops : Array Oper} {Kx : Exit → St → Prop} {o : Oper} {rest : List Oper} {st : St}
theorem OkW.addFacts {m : Mem} {fs fs2 : List Fact} {w w' : World} {i b : Nat} {p p' : Obj} (h : OkW cx m fs w) (hi : m[i]? = some (b, p)) (hfr : Fr [b] w w') (hb : w'.heap[b]? = some p') (hf : ∀ f ∈ fs2, f.p w' ∧ ∀ k, f.fp k → w.heap.size ≤ k ∧ k < w'.heap.size) : OkW cx (m.set i (b, p')) (fs ++ fs2) w' := by
  have h1 := h.set hi hfr hb
  have hk : (m.set i (b, p')).map (·.1) = m.map (·.1) := nodup_set hi
  refine ⟨h1.mem, h1.dis, h1.may, fun f hf2 => ?_, h1.fr⟩
  rcases List.mem_append.1 hf2 with h2 | h2
  · exact h1.facts f h2
  · refine ⟨(hf f h2).1, fun k hk2 => ⟨((hf f h2).2 k hk2).2, fun hm => ?_⟩⟩
    rw [hk] at hm
    have := h.lt hm
    have := ((hf f h2).2 k hk2).1
    omega
theorem LP_in {α : Type} {x : Operand} {args : Array Operand} {at_ : Array TypeId} {f : FuncId} {first cap : Array Value} {vs : List Value} {d rb : Nat} {RD S : TypeId} {u0 : Value} {l0 : List Int} {r : Option (α × List Int)} {V : α → Value → List Fact → Prop} {p : Obj} (i : Nat) (hg : o.guard = none) (ho : o.op = .call { callee := .value x, args := args, argTypes := at_ })
    (hd : o.dst = some d) (hlt : Nat.blt d cx.nt = true) (hx : ev st.env x = some (.func (.func f) first cap)) (hv : evs st.env args.toList = some vs) (hf : Txt cx.P f) (hi : st.mem[i]? = some (rb, p))
    (hc : ∀ w, OkW cx st.mem st.facts w → Calls cx.P f (first ++ vs.toArray ++ cap) w (InP RD S w rb u0 l0 r V))
    (hno : r = none → Kx (.panic [stp S 60]) { st with mem := [], facts := [] })
    (hyes : ∀ x l' v fs a n c, r = some (x, l') → V x v fs → n ≤ c → (∀ W, SlB W u0 l0 → SlB W (.slice a n c) l') → (∀ f ∈ fs, ∀ k, f.fp k → cx.w0.heap.size ≤ k) → LP cx ops Kx rest { st with env := (d, v) :: st.env, mem := st.mem.set i (rb, row RD [.slice a n c]), facts := st.facts ++ fs }) : LP cx ops Kx (o :: rest) st := by
  refine LP_call hg ho hx hv hf fun w hw => (hc w hw).mono ?_
  rintro e w' ⟨hfr, hR⟩
  have hbm : rb ∈ st.mem.map (·.1) := List.mem_map.2 ⟨_, List.mem_of_getElem? hi, rfl⟩
  cases r with
  | none =>
    simp only at hR
    subst hR
    exact .inr ⟨_, [], [], rfl, hw.step hfr (by simpa using hbm) (by simp) (by simp) (by simp), hno rfl⟩
  | some q =>
    obtain ⟨x, l'⟩ := q
    obtain ⟨v, fs, a, n, c, rfl, hV, hfs, hb, hnc, hs⟩ := hR
    refine .inl ⟨_, _, _, rfl, hw.addFacts hi hfr hb hfs, ?_⟩
    rw [hd]
    exact ⟨hlt, hyes x l' v fs a n c rfl hV hnc hs (fun f hf k hk => Nat.le_trans hw.fr.size ((hfs f hf).2 k hk).1)⟩
theorem fxIn {cx : Cx} {m : Mem} {f0 f1 : Fact} {fs : List Fact} {w : World} {rb : Nat} {p : Obj} (h : OkW cx m (f0 :: f1 :: fs) w) (h0 : m[0]? = some (rb, p)) : ∀ f ∈ [f0, f1], f.p w ∧ ∀ k, f.fp k → k < w.heap.size ∧ k ≠ rb := fun f hf => by
  have hf' : f ∈ f0 :: f1 :: fs := by
    simp only [List.mem_cons, List.not_mem_nil, or_false] at hf ⊢
    rcases hf with h | h
    · exact .inl h
    · exact .inr (.inl h)
  exact ⟨(h.facts f hf').1, fun k hk => ⟨((h.facts f hf').2 k hk).1, fun e => ((h.facts f hf').2 k hk).2 (by subst e; exact List.mem_map.2 ⟨_, List.mem_of_getElem? h0, rfl⟩)⟩⟩
theorem src_C {sz : Nat} {P : Program} {w : World} {tx e' : TypeId} {x : Value} {n : Nat} {cs : List Value} (hk : P.underlying tx = some (.slice e')) (h : SlC sz w x n cs) (h1 : ∀ u ∈ cs, u.oneCell' = true) : Src P sz tx x n cs w := by
  rcases h with ⟨rfl, rfl, a, c, rfl⟩ | ⟨b, off, c, rfl, hl, h⟩
  · cases a with
    | none => exact Src.ofNil w hk c
    | some a => exact Src.ofSlice w hk a 0 c [] (by simp) (fun j u hj => by simp at hj) (fun u hu => by simp at hu)
  · exact Src.ofSlice w hk _ _ c cs hl (fun j u hj => by rw [add_at]; exact h j u hj) h1
/-- A row of one's own, as what a reader hands back. -/
theorem own_fact {cx : Cx} {m : Mem} {fs : List Fact} {w : World} {rb sz n : Nat} {p : Obj} {q : OwnR} {ks : List Value} {T : TypeId} (h : OkW cx ((rb, p) :: m) fs w) (hm : cx.mods = [rb]) (hs : ∀ x ∈ ownM T q ks, x ∈ m) (hq : OwnC sz q n ks) :
    (factC sz (ownV q n) n ks).p w ∧ ∀ k, (factC sz (ownV q n) n ks).fp k → cx.w0.heap.size ≤ k ∧ k < w.heap.size := by
  refine ⟨SlC.ofM h (fun x hx => List.mem_cons_of_mem _ (hs x hx)) hq, ?_⟩
  rintro k ⟨hne, off, n', c, e⟩
  cases q with
  | none => exact absurd hq.2 hne
  | some q =>
    obtain ⟨g, c0, r⟩ := q
    simp only [ownV, oA, oC, Value.slice.injEq, Option.some.injEq, Addr.mk.injEq] at e
    obtain ⟨⟨rfl, _⟩, _⟩ := e
    have hp := hs (g, row T (ks ++ r)) (by simp [ownM])
    have hk : g ∈ ((rb, p) :: m).map (·.1) := List.mem_cons_of_mem _ (List.mem_map.2 ⟨_, hp, rfl⟩)
    refine ⟨?_, h.lt hk⟩
    rcases h.may g hk with h1 | h1
    · exact h1
    · rw [hm, List.mem_singleton] at h1
      subst h1
      have hd := h.dis
      rw [List.map_cons, List.nodup_cons] at hd
      exact absurd (List.mem_map.2 ⟨_, hp, rfl⟩) hd.1
end
end Go.Sx
