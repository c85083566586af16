/- Yielding where a guard holds. -/
import Derived.Test.YtcbpgnjlbbjieaaDoorSx16
set_option linter.unusedVariables false
namespace Go.Sx
open Go
section
variable {cx : Cx} {o : Oper} {st : St}

theorem L_wyield {o : Oper} {st : St} {ops : Array Oper} {K : St → Prop} {rest : List Oper} {x : Operand} {args : Array Operand} {at_ : Array TypeId} {l d j dj : Nat} {want : Bool} {vs : List Value} (hro : cx.ro = none) (hg : o.guard = some (j, want)) (hj : (ops[j]?).bind (·.dst) = some dj) (hdj : Nat.blt dj cx.nt = true)
    (hvj : get st.env dj = some (.bool want)) (ho : o.op = .call { callee := .value x, args := args, argTypes := at_ })
    (hd : o.dst = some d) (hlt : Nat.blt d cx.nt = true) (hx : ev st.env x = some (.func (.yield l) #[] #[])) (hv : evs st.env args.toList = some vs)
    (hy : ∀ w, OkW cx st.mem st.facts w → YieldAt (fen none) 0 cx.P l vs.toArray w fun e w' => ∃ v m, e = .returned v ∧ OkW cx m st.facts w' ∧ L cx ops K rest { st with env := (d, v) :: st.env, mem := m }) : L cx ops K (o :: rest) st := by
  refine L_want hg hj hdj hvj fun Q next a w hok hk => ?_
  refine ⟨fun _ _ => trivial, ?_⟩
  rw [Oper.semAt_eq _ _ _ (nd ho (fun c h => by cases h))]
  obtain ⟨fn, tmps, assign, body, hrun, hround⟩ := hy w hok.w
  have hr : (execOp a.eval o).run cx.P w = .ok (.round l fn tmps assign body) w := by
    unfold execOp; rw [ho]
    have e1 : args.map a.eval = vs.toArray := Array.ext' (by rw [Array.toList_map, hok.a.evs hv])
    simp only [resolve, hok.a.ev hx, e1, Deferred.ofValue, Sem.run_bind, Sem.run_pure, Result.andThen_ok, invoke, Array.empty_append, hrun]
  rw [hr]
  refine ⟨fun h => (by cases h), ?_⟩
  rw [hro]
  refine hround.mono ?_
  rintro e w' ⟨v, m, rfl, hw', hL⟩
  rw [hd]
  exact hk { st with env := (d, v) :: st.env, mem := m } _ _ ⟨hok.a.put hlt v, hw'⟩ hL
/-- An operation whose guard holds, by its own rule. -/
theorem L_wS {o : Oper} {st : St} {ops : Array Oper} {K : St → Prop} {rest : List Oper} {j dj : Nat} {want : Bool} (hg : o.guard = some (j, want)) (hj : (ops[j]?).bind (·.dst) = some dj) (hdj : Nat.blt dj cx.nt = true)
    (hvj : get st.env dj = some (.bool want)) (h : S cx o (fun s => L cx ops K rest s) st) : L cx ops K (o :: rest) st :=
  L_want hg hj hdj hvj fun Q next a w hok hk => h Q next a w hok fun st' a' w' h1 h2 => hk st' a' w' h1 h2
end
end Go.Sx
