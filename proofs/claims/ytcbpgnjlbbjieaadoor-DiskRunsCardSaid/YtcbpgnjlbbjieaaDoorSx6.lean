/- More rules: calls through bound functions; a call that turns a block of one's own and lays a new one; a call that turns a slice in a block of one's own; an operation that is quiet, walked where it alone may come. -/
import Derived.Test.YtcbpgnjlbbjieaaDoorSx2
set_option linter.unusedVariables false
set_option linter.unusedSimpArgs false
namespace Go.Sx
section
variable {cx : Cx} {o : Oper} {ops : Array Oper} {K : St → Prop} {rest : List Oper} {st : St} {m0 : Mem} {f0 : List Fact} {r : Ord}
theorem run_callF {a : Act} {env : Env} {ds : List Deferred} (ha : OkA cx env ds a) {x : Operand} {args : Array Operand} {at_ : Array TypeId} {f : FuncId} {first cap : Array Value} {vs : List Value} (ho : o.op = .call { callee := .value x, args := args, argTypes := at_ })
    (hx : ev env x = some (.func (.func f) first cap)) (hv : evs env args.toList = some vs) (hf : Txt cx.P f) (w : World) : (execOp a.eval o).run cx.P w = .ok (.enter f (first ++ vs.toArray ++ cap)) w := by
  unfold execOp; rw [ho]
  have e1 : args.map a.eval = vs.toArray := Array.ext' (by rw [Array.toList_map, ha.evs hv])
  simp only [resolve, ha.ev hx, e1, Deferred.ofValue, Sem.run_bind, Sem.run_pure, Result.andThen_ok, invoke, hf _ w]
/-- A call through a value that has its first arguments, by whatever is known of it. -/
theorem S_callF {x : Operand} {args : Array Operand} {at_ : Array TypeId} {f : FuncId} {first cap : Array Value} {vs : List Value} (ho : o.op = .call { callee := .value x, args := args, argTypes := at_ })
    (hx : ev st.env x = some (.func (.func f) first cap)) (hv : evs st.env args.toList = some vs) (hf : Txt cx.P f)
    (hc : ∀ w, OkW cx st.mem st.facts w → Calls cx.P f (first ++ vs.toArray ++ cap) w fun e w' => ∃ v m fs, e = .returned v ∧ OkW cx m fs w' ∧
      (match o.dst with
       | some d => Nat.blt d cx.nt = true ∧ K { st with env := (d, v) :: st.env, mem := m, facts := fs }
       | none => K { st with mem := m, facts := fs })) : S cx o K st := by
  intro Q next a w hok hk
  refine ⟨fun _ _ => trivial, ?_⟩
  rw [Oper.semAt_eq _ _ _ (nd ho (fun c h => by cases h)), run_callF hok.a ho hx hv hf w]
  refine ⟨fun h => (by cases h), ?_⟩
  refine callsIn_fen ((hc w hok.w).mono ?_)
  rintro e w' ⟨v, m, fs, rfl, hw', hL⟩
  cases hd : o.dst with
  | none =>
    rw [hd] at hL
    exact hk { st with mem := m, facts := fs } _ _ ⟨hok.a, hw'⟩ hL
  | some d =>
    rw [hd] at hL
    exact hk { st with env := (d, v) :: st.env, mem := m, facts := fs } _ _ ⟨hok.a.put hL.1 v, hw'⟩ hL.2
theorem OkW.setAdd {m : Mem} {fs : List Fact} {w w' : World} (h : OkW cx m fs w) {i b g : Nat} {p p' q' : Obj} (hi : m[i]? = some (b, p)) (hfr : Fr [b] w w') (hp : w'.heap[b]? = some p') (hg : w.heap.size ≤ g) (hq : w'.heap[g]? = some q') : OkW cx (m.set i (b, p') ++ [(g, q')]) fs w' := by
  have hb : b ∈ m.map (·.1) := List.mem_map.2 ⟨_, List.mem_of_getElem? hi, rfl⟩
  have h1 := h.set hi hfr hp
  have hk : (m.set i (b, p')).map (·.1) = m.map (·.1) := nodup_set hi
  refine h.step hfr (by simpa using hb) (fun c q hq2 => ?_) ?_ (fun f hf => .inl hf)
  · rcases List.mem_append.1 hq2 with h2 | h2
    · refine ⟨h1.mem c q h2, .inr ?_⟩
      rw [← hk]
      exact List.mem_map.2 ⟨_, h2, rfl⟩
    · simp only [List.mem_singleton, Prod.mk.injEq] at h2
      obtain ⟨rfl, rfl⟩ := h2
      exact ⟨hq, .inl hg⟩
  · rw [List.map_append, hk, List.nodup_append]
    refine ⟨h.dis, by simp, fun a ha c hc => ?_⟩
    simp only [List.map_cons, List.map_nil, List.mem_singleton] at hc
    subst hc
    have := h.lt ha
    exact Nat.ne_of_lt (Nat.lt_of_lt_of_le this hg)
/-- A function puts into block b a slice that stands in a new block. -/
def PutP (T U : TypeId) (w : World) (b : Nat) (L : List Int) (n : Nat) : Ending → World → Prop := fun e w' =>
  ∃ g r c, e = .returned (.tuple #[]) ∧ Fr [b] w w' ∧ w'.heap[b]? = some (row T [.slice (some ⟨g, 0, none⟩) n c]) ∧ w.heap.size ≤ g ∧ w'.heap[g]? = some (row U (dg L ++ r)) ∧ L.length = n ∧ n ≤ c ∧ r.length = c - n
theorem L_callX {x : Operand} {args : Array Operand} {at_ : Array TypeId} {f : FuncId} {first cap : Array Value} {vs : List Value} {d n b : Nat} {T U : TypeId} {L0 : List Int} {p : Obj} (i : Nat) (hg : o.guard = none) (ho : o.op = .call { callee := .value x, args := args, argTypes := at_ })
    (hd : o.dst = some d) (hlt : Nat.blt d cx.nt = true) (hx : ev st.env x = some (.func (.func f) first cap)) (hv : evs st.env args.toList = some vs) (hf : Txt cx.P f) (hi : st.mem[i]? = some (b, p))
    (hc : ∀ w, OkW cx st.mem st.facts w → Calls cx.P f (first ++ vs.toArray ++ cap) w (PutP T U w b L0 n))
    (h : ∀ g r c, L0.length = n → n ≤ c → r.length = c - n → L cx ops K rest { st with env := (d, .tuple #[]) :: st.env, mem := st.mem.set i (b, row T [.slice (some ⟨g, 0, none⟩) n c]) ++ [(g, row U (dg L0 ++ r))] }) : L cx ops K (o :: rest) st :=
  L_cons hg (S_callF ho hx hv hf fun w hw => (hc w hw).mono fun e w' ⟨g, r, c, he, hfr, hb, hgs, hgg, h1, h2, h3⟩ => ⟨_, _, st.facts, he, hw.setAdd hi hfr hb hgs hgg, by rw [hd]; exact ⟨hlt, h g r c h1 h2 h3⟩⟩)
/-- A function reads of the slice in block b. -/
def RdP (T : TypeId) (b : Nat) (w : World) (a : Option Addr) (n c : Nat) (l : List Int) (k : Int) (val : Value) : Ending → World → Prop := fun e w' =>
  ∃ a' n' c', e = .returned val ∧ Fr [b] w w' ∧ w'.heap[b]? = some (row T [.slice a' n' c']) ∧ n' ≤ c' ∧ ∀ W, SlB W (.slice a n c) l → SlB W (.slice a' n' c') (l.drop k.toNat)
theorem L_callR {x : Operand} {args : Array Operand} {at_ : Array TypeId} {f : FuncId} {first cap : Array Value} {vs : List Value} {d b : Nat} {T : TypeId} {a : Option Addr} {n c : Nat} {l : List Int} {k : Int} {val : Value} {p : Obj} (i : Nat) (hg : o.guard = none) (ho : o.op = .call { callee := .value x, args := args, argTypes := at_ })
    (hd : o.dst = some d) (hlt : Nat.blt d cx.nt = true) (hx : ev st.env x = some (.func (.func f) first cap)) (hv : evs st.env args.toList = some vs) (hf : Txt cx.P f) (hi : st.mem[i]? = some (b, p))
    (hc : ∀ w, OkW cx st.mem st.facts w → Calls cx.P f (first ++ vs.toArray ++ cap) w (RdP T b w a n c l k val))
    (h : ∀ a' n' c', n' ≤ c' → (∀ W, SlB W (.slice a n c) l → SlB W (.slice a' n' c') (l.drop k.toNat)) → L cx ops K rest { st with env := (d, val) :: st.env, mem := st.mem.set i (b, row T [.slice a' n' c']) }) : L cx ops K (o :: rest) st :=
  L_cons hg (S_callF ho hx hv hf fun w hw => (hc w hw).mono fun e w' ⟨a', n', c', he, hfr, hb, h1, h2⟩ => ⟨_, _, st.facts, he, hw.set hi hfr hb, by rw [hd]; exact ⟨hlt, h a' n' c' h1 h2⟩⟩)
/-- A quiet operation, walked as one that is not: it alone may come. -/
theorem LO_q {k d : Nat} {v : Value} (hro : cx.ro = none) (hk : ops[k]? = some o) (hg : o.guard = none) (hd : o.dst = some d) (hlt : Nat.blt d cx.nt = true) (hv : V cx o st v) (hp : Pk m0 st.mem) (hff : ∀ f ∈ f0, f ∈ st.facts) (h : LO cx m0 f0 ops K r (st.put d v)) : LO cx m0 f0 ops K (.one k r) st :=
  LO_s hro hk hg (S_v hd hlt hv ⟨hp, hff, h⟩)
end
end Go.Sx
