/- More rules: a call that turns some blocks of one's own, whose number and content may change. -/
import Derived.Test.YtcbpgnjlbbjieaaDoorSx10
set_option linter.unusedVariables false
set_option linter.unusedSimpArgs false
namespace Go.Sx
def MemAt (w : World) (m : Mem) : Prop := (∀ b o, (b, o) ∈ m → w.heap[b]? = some o) ∧ (m.map (·.1)).Nodup
/-- What such a call comes to. -/
def RefP {Z : Type} (w : World) (m : Mem) (Ms : Z → Mem) (C : Z → Prop) (val : Value) : Ending → World → Prop := fun e w' =>
  ∃ z, C z ∧ e = .returned val ∧ Fr (m.map (·.1)) w w' ∧ MemAt w' (Ms z) ∧ ∀ k ∈ (Ms z).map (·.1), k ∈ m.map (·.1) ∨ w.heap.size ≤ k
section
variable {cx : Cx} {ops : Array Oper} {K : St → Prop} {o : Oper} {rest : List Oper} {st : St}
theorem OkW.memAt {m m' : Mem} {fs : List Fact} {w : World} (h : OkW cx m fs w) (hs : List.Sublist m' m) : MemAt w m' :=
  ⟨fun b o hb => h.mem b o (hs.subset hb), (hs.map _).nodup h.dis⟩
theorem okMem {P : Program} {w : World} {nt : Nat} {m : Mem} {fs : List Fact} (hm : MemAt w m) (hf : ∀ f ∈ fs, f.p w ∧ ∀ k, f.fp k → k < w.heap.size ∧ k ∉ m.map (·.1)) : OkW { P := P, w0 := w, nt := nt, mods := m.map (·.1) } m fs w :=
  ⟨hm.1, hm.2, fun b hb => .inr hb, hf, Fr.refl _ _⟩
theorem OkW.ref {Z : Type} {m1 m : Mem} {fs : List Fact} {w w' : World} {Ms : Z → Mem} {z : Z} (h : OkW cx (m1 ++ m) fs w) (hfr : Fr (m.map (·.1)) w w') (hm : MemAt w' (Ms z)) (hk : ∀ k ∈ (Ms z).map (·.1), k ∈ m.map (·.1) ∨ w.heap.size ≤ k) : OkW cx (m1 ++ Ms z) fs w' := by
  have hd := h.dis
  rw [List.map_append, List.nodup_append] at hd
  refine h.step hfr (fun b hb => by rw [List.map_append]; exact List.mem_append_right _ hb) (fun b o hb => ?_) ?_ (fun f hf => .inl hf)
  · rcases List.mem_append.1 hb with h1 | h1
    · have hbm : b ∈ m1.map (·.1) := List.mem_map.2 ⟨_, h1, rfl⟩
      have h2 := h.mem b o (List.mem_append_left _ h1)
      refine ⟨(hfr.block b (Array.getElem?_eq_some_iff.1 h2).1 (fun hm2 => hd.2.2 b hbm b hm2 rfl)).trans h2, .inr ?_⟩
      rw [List.map_append]
      exact List.mem_append_left _ hbm
    · have hbm : b ∈ (Ms z).map (·.1) := List.mem_map.2 ⟨_, h1, rfl⟩
      refine ⟨hm.1 b o h1, ?_⟩
      rcases hk b hbm with h2 | h2
      · right
        rw [List.map_append]
        exact List.mem_append_right _ h2
      · exact .inl h2
  · rw [List.map_append, List.nodup_append]
    refine ⟨hd.1, hm.2, fun a ha b hb e => ?_⟩
    subst e
    rcases hk a hb with h2 | h2
    · exact hd.2.2 a ha a h2 rfl
    · have := h.lt (show a ∈ (m1 ++ m).map (·.1) by rw [List.map_append]; exact List.mem_append_left _ ha)
      omega
theorem S_callRef {Z : Type} {x : Operand} {args : Array Operand} {at_ : Array TypeId} {f : FuncId} {first cap : Array Value} {vs : List Value} {d : Nat} {m1 m : Mem} {Ms : Z → Mem} {C : Z → Prop} {val : Value} (ho : o.op = .call { callee := .value x, args := args, argTypes := at_ })
    (hd : o.dst = some d) (hlt : Nat.blt d cx.nt = true) (hx : ev st.env x = some (.func (.func f) first cap)) (hv : evs st.env args.toList = some vs) (hf : Txt cx.P f) (hm : st.mem = m1 ++ m)
    (hc : ∀ w, OkW cx (m1 ++ m) st.facts w → Calls cx.P f (first ++ vs.toArray ++ cap) w (RefP w m Ms C val))
    (h : ∀ z, C z → K { st with env := (d, val) :: st.env, mem := m1 ++ Ms z }) : S cx o K st :=
  S_callF ho hx hv hf fun w hw => by
    rw [hm] at hw
    refine (hc w hw).mono ?_
    rintro e w' ⟨z, hz, rfl, hfr, hM, hk⟩
    exact ⟨_, _, _, rfl, hw.ref hfr hM hk, by rw [hd]; exact ⟨hlt, h z hz⟩⟩
theorem L_callRef {Z : Type} {x : Operand} {args : Array Operand} {at_ : Array TypeId} {f : FuncId} {first cap : Array Value} {vs : List Value} {d : Nat} {m1 m : Mem} {Ms : Z → Mem} {C : Z → Prop} {val : Value} (hg : o.guard = none) (ho : o.op = .call { callee := .value x, args := args, argTypes := at_ })
    (hd : o.dst = some d) (hlt : Nat.blt d cx.nt = true) (hx : ev st.env x = some (.func (.func f) first cap)) (hv : evs st.env args.toList = some vs) (hf : Txt cx.P f) (hm : st.mem = m1 ++ m)
    (hc : ∀ w, OkW cx (m1 ++ m) st.facts w → Calls cx.P f (first ++ vs.toArray ++ cap) w (RefP w m Ms C val))
    (h : ∀ z, C z → L cx ops K rest { st with env := (d, val) :: st.env, mem := m1 ++ Ms z }) : L cx ops K (o :: rest) st :=
  L_cons hg (S_callRef ho hd hlt hx hv hf hm hc h)
theorem RefP.of {Z : Type} {m mem : Mem} {fs : List Fact} {w' : World} {Ms : Z → Mem} {C : Z → Prop} {val : Value} (z : Z) (hw : OkW cx mem fs w') (hm : cx.mods = m.map (·.1)) (hC : C z) (hs : List.Sublist (Ms z) mem) : RefP cx.w0 m Ms C val (.returned val) w' :=
  ⟨z, hC, rfl, hm ▸ hw.fr, hw.memAt hs, fun k hk => by
    rcases hw.may k ((hs.map _).subset hk) with h | h
    · exact .inr h
    · rw [hm] at h
      exact .inl h⟩
/-- The facts that a callee wants: what is known lies in none of these blocks. -/
theorem OkW.factsM {m1 m : Mem} {fs : List Fact} {w : World} (h : OkW cx (m1 ++ m) fs w) : ∀ f ∈ fs, f.p w ∧ ∀ k, f.fp k → k < w.heap.size ∧ k ∉ m.map (·.1) := fun f hf =>
  ⟨(h.facts f hf).1, fun k hk => ⟨((h.facts f hf).2 k hk).1, fun hm => ((h.facts f hf).2 k hk).2 (by rw [List.map_append]; exact List.mem_append_right _ hm)⟩⟩
theorem OkW.memM {m1 m : Mem} {fs : List Fact} {w : World} (h : OkW cx (m1 ++ m) fs w) : MemAt w m := h.memAt (List.sublist_append_right _ _)
end
end Go.Sx
