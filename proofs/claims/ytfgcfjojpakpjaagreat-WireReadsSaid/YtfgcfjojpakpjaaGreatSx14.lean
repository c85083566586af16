/- More rules: what reads of a reader that never throws. -/
import Derived.Test.YtfgcfjojpakpjaaGreatSx12
import Derived.Test.YtfgcfjojpakpjaaGreatTotPure
set_option linter.unusedVariables false
set_option linter.unusedSimpArgs false
namespace Go.Sx
open Go.Proofs.YtfgcfjojpakpjaaGreat (RSt)
/-- A call that reads of the reader in block rb: what it hands back, what is left, and whether it has gone wrong. -/
def InT {α : Type} (RD : TypeId) (w : World) (rb : Nat) (u0 : Value) (l0 : List Int) (r : α × RSt) (V : α → Value → List Fact → Prop) : Ending → World → Prop := fun e w' => Fr [rb] w w' ∧ ∃ v fs a n c, e = .returned v ∧ V r.1 v fs ∧ (∀ f ∈ fs, f.p w' ∧ ∀ k, f.fp k → w.heap.size ≤ k ∧ k < w'.heap.size) ∧ w'.heap[rb]? = some (row RD [.slice a n c, .bool r.2.2]) ∧ n ≤ c ∧ ∀ W, SlB W u0 l0 → SlB W (.slice a n c) r.2.1
theorem InT.of {α : Type} {RD : TypeId} {w w' : World} {rb : Nat} {u0 : Value} {l0 : List Int} {r : α × RSt} {V : α → Value → List Fact → Prop} {v : Value} {fs : List Fact} {a : Option Addr} {n c : Nat} {bd : Bool} {l' : List Int} (hfr : Fr [rb] w w') (hV : V r.1 v fs)
    (hfs : ∀ f ∈ fs, f.p w' ∧ ∀ k, f.fp k → w.heap.size ≤ k ∧ k < w'.heap.size) (hb : w'.heap[rb]? = some (row RD [.slice a n c, .bool bd])) (hc : n ≤ c) (hs : ∀ W, SlB W u0 l0 → SlB W (.slice a n c) l') (hr : r.2 = (l', bd)) : InT RD w rb u0 l0 r V (.returned v) w' := by
  refine ⟨hfr, v, fs, a, n, c, rfl, hV, hfs, ?_, hc, ?_⟩
  · rw [hr]; exact hb
  · rw [hr]; exact hs
section
variable {cx : Cx} {ops : Array Oper} {K : St → Prop} {o : Oper} {rest : List Oper} {st : St}
theorem L_inT {α : Type} {x : Operand} {args : Array Operand} {at_ : Array TypeId} {f : FuncId} {cap : Array Value} {vs : List Value} {d rb : Nat} {RD : TypeId} {u0 : Value} {l0 : List Int} {r : α × RSt} {V : α → Value → List Fact → Prop} {p : Obj} (i : Nat) (hg : o.guard = none) (ho : o.op = .call { callee := .value x, args := args, argTypes := at_ })
    (hd : o.dst = some d) (hlt : Nat.blt d cx.nt = true) (hx : ev st.env x = some (.func (.func f) #[] cap)) (hv : evs st.env args.toList = some vs) (hf : Txt cx.P f) (hi : st.mem[i]? = some (rb, p))
    (hc : ∀ w, OkW cx st.mem st.facts w → Calls cx.P f (vs.toArray ++ cap) w (InT RD w rb u0 l0 r V))
    (h : ∀ v fs a n c, V r.1 v fs → n ≤ c → (∀ W, SlB W u0 l0 → SlB W (.slice a n c) r.2.1) → (∀ f ∈ fs, ∀ k, f.fp k → cx.w0.heap.size ≤ k) → L cx ops K rest { st with env := (d, v) :: st.env, mem := st.mem.set i (rb, row RD [.slice a n c, .bool r.2.2]), facts := st.facts ++ fs }) : L cx ops K (o :: rest) st := by
  refine L_call hg ho hx hv hf fun w hw => (hc w hw).mono ?_
  rintro e w' ⟨hfr, v, fs, a, n, c, rfl, hV, hfs, hb, hnc, hs⟩
  refine ⟨_, _, _, rfl, hw.addFacts hi hfr hb hfs, ?_⟩
  rw [hd]
  exact ⟨hlt, h v fs a n c hV hnc hs (fun f hf k hk => Nat.le_trans hw.fr.size ((hfs f hf).2 k hk).1)⟩
end
end Go.Sx
