/- More rules: operations that panic; functions whose panics go through; a call that is deferred, and recovers. -/
import Derived.Test.YtcbpgnjlbbjieaaDoorSx6
import Derived.RecoverIn
set_option linter.unusedVariables false
set_option linter.unusedSimpArgs false
namespace Go.Sx
section
variable {cx : Cx} {ops : Array Oper} {Kx : Exit → St → Prop} {o : Oper} {rest : List Oper} {st : St}
/-- A region's operations, some of which may panic. -/
def LP (cx : Cx) (ops : Array Oper) (Kx : Exit → St → Prop) (l : List Oper) (st : St) : Prop :=
  ∀ a w, Ok cx st a w → wpListIn (fen cx.ro) 0 cx.P ops (fun e a w => ∃ st', Ok cx st' a w ∧ Kx e st') l a w
theorem J_regionP {id : Nat} {l : List Oper} (h : LP cx l.toArray Kx l st) : J cx (.region id l.toArray false) Kx st := fun a w ho => wpIn_region_lit (h a w ho)
theorem LP_nil (h : Kx .normal st) : LP cx ops Kx [] st := fun a w ho => wpListIn_nil ⟨st, ho, h⟩
theorem LP_le {l : List Oper} {st' : St} (hl : Le st' st) (h : LP cx ops Kx l st') : LP cx ops Kx l st := fun a w ho => h a w (ho.le hl)
theorem LP_pk {l : List Oper} (m' : Mem) (hp : Pk m' st.mem) (h : LP cx ops Kx l { st with mem := m' }) : LP cx ops Kx l st :=
  fun a w ho => h a w ⟨ho.a, ho.w.pk hp (fun f hf => hf)⟩
theorem LP_split {l : List Oper} (s : Nat) {b : Bool} (hs : get st.env s = some (.bool b)) (ht : b = true → LP cx ops Kx l (st.put s (.bool true))) (hf : b = false → LP cx ops Kx l (st.put s (.bool false))) : LP cx ops Kx l st := by
  intro a w ho
  cases b with
  | true => exact ht rfl a w ⟨put_same ho.a hs, ho.w⟩
  | false => exact hf rfl a w ⟨put_same ho.a hs, ho.w⟩
theorem LP_same {l : List Oper} (s : Nat) {v v' : Value} (hs : get st.env s = some v) (e : v = v') (h : LP cx ops Kx l (st.put s v')) : LP cx ops Kx l st :=
  fun a w ho => h a w ⟨put_same ho.a (e ▸ hs), ho.w⟩
theorem uponIn_only {F : Fence} {n : Nat} {P : Program} {a : Act} {next : Act → World → Prop} {Q Q' : Exit → Act → World → Prop} (hp : ∀ ch a w, Q' (.panic ch) a w → Q (.panic ch) a w) (ho : LetsOut Q' → LetsOut Q) (r : Result Next)
    (hh : o.uponIn F n P a next Q' r) : o.uponIn F n P a next Q r := by
  cases r with
  | ok x w' =>
    cases x <;> simp only [Oper.uponIn] at hh ⊢ <;>
      first
        | exact hh
        | exact ⟨hh.1, CallsIn.mono hh.2 (fun e w'' he => by cases e <;> first | exact he | exact hp _ _ _ he | exact ho he)⟩
        | exact ⟨hh.1, RoundIn.mono hh.2 (fun e w'' he => by cases e <;> first | exact he | exact hp _ _ _ he | exact ho he)⟩
  | halt x w' => cases x <;> simp only [Oper.uponIn] at hh ⊢ <;> first | exact hh | exact hp _ _ _ hh
/-- An operation by a rule for those that do not panic. -/
theorem LP_one (h : L cx ops (LP cx ops Kx rest) [o] st) : LP cx ops Kx (o :: rest) st := by
  intro a w ho
  have h1 := h (fun e a w => match e with | .normal => wpListIn (fen cx.ro) 0 cx.P ops (fun e a w => ∃ st', Ok cx st' a w ∧ Kx e st') rest a w | e => ∃ st', Ok cx st' a w ∧ Kx e st') a w ho (fun st' a' w' h1 h2 => h2 a' w' h1)
  unfold wpListIn at h1 ⊢
  split at h1
  · rename_i hw
    rw [if_pos hw]
    exact ⟨h1.1, uponIn_only (fun _ _ _ h => h) (fun h => h) _ h1.2⟩
  · rename_i hw
    rw [if_neg hw]
    exact h1
theorem LP_call {x : Operand} {args : Array Operand} {at_ : Array TypeId} {f : FuncId} {first cap : Array Value} {vs : List Value} (hg : o.guard = none) (ho : o.op = .call { callee := .value x, args := args, argTypes := at_ })
    (hx : ev st.env x = some (.func (.func f) first cap)) (hv : evs st.env args.toList = some vs) (hf : Txt cx.P f)
    (hc : ∀ w, OkW cx st.mem st.facts w → Calls cx.P f (first ++ vs.toArray ++ cap) w fun e w' => (∃ v m fs, e = .returned v ∧ OkW cx m fs w' ∧
      (match o.dst with
       | some d => Nat.blt d cx.nt = true ∧ LP cx ops Kx rest { st with env := (d, v) :: st.env, mem := m, facts := fs }
       | none => LP cx ops Kx rest { st with mem := m, facts := fs })) ∨ (∃ ch m fs, e = .panicked ch ∧ OkW cx m fs w' ∧ Kx (.panic ch) { st with mem := m, facts := fs })) : LP cx ops Kx (o :: rest) st := by
  intro a w hok
  refine wpListIn_plain hg fun K' hK' => ?_
  refine ⟨fun _ _ => trivial, ?_⟩
  rw [Oper.semAt_eq _ _ _ (nd ho (fun c h => by cases h)), run_callF hok.a ho hx hv hf w]
  refine ⟨fun h => (by cases h), ?_⟩
  refine callsIn_fen ((hc w hok.w).mono ?_)
  rintro e w' (⟨v, m, fs, rfl, hw', hL⟩ | ⟨ch, m, fs, rfl, hw', hK⟩)
  · cases hd : o.dst with
    | none =>
      rw [hd] at hL
      exact hK' _ _ (hL a w' (⟨hok.a, hw'⟩ : Ok cx { st with mem := m, facts := fs } a w'))
    | some d =>
      rw [hd] at hL
      exact hK' _ _ (hL.2 _ w' (⟨hok.a.put hL.1 v, hw'⟩ : Ok cx { st with env := (d, v) :: st.env, mem := m, facts := fs } _ w'))
  · exact ⟨{ st with mem := m, facts := fs }, ⟨hok.a, hw'⟩, hK⟩
theorem LP_panic {x : Operand} {t : TypeId} {v : Value} (hg : o.guard = none) (ho : o.op = .panic x) (hx : ev st.env x = some (.iface t v)) (hk : Kx (.panic [{ v := .iface t v, recovered := false }]) st) : LP cx ops Kx (o :: rest) st := by
  intro a w hok
  refine wpListIn_plain hg fun K' hK' => ?_
  refine ⟨fun _ _ => trivial, ?_⟩
  rw [Oper.semAt_eq _ _ _ (nd ho (fun c h => by cases h))]
  have hr : (execOp a.eval o).run cx.P w = .halt (.panic (.iface t v)) w := by
    unfold execOp; rw [ho]
    simp only [hok.a.ev hx, Instr.panic]
    rfl
  rw [hr]
  exact ⟨st, hok, hk⟩

/-- A function whose panics go through. -/
def KretP (cx : Cx) (fn : Func) (R : Ending → World → Prop) : Exit → St → Prop
  | .normal, st => ∀ a w, Ok cx st a w → bodyPost cx.P fn R .ret a w
  | .ret, st => ∀ a w, Ok cx st a w → bodyPost cx.P fn R .ret a w
  | .panic ch, st => ∀ a w, Ok cx st a w → bodyPost cx.P fn R (.panic ch) a w
  | _, _ => False
theorem calls_of_p {P : Program} {f : FuncId} {fn : Func} {c : Code} {args : List Value} {w : World} {R : Ending → World → Prop} (mods : List Nat) (mem : Mem) (facts : List Fact) (hf : P.funcs[f]? = some fn) (hb : fn.body = some c)
    (hn : Nat.ble args.length fn.ntmps = true) (hw : OkW { P := P, w0 := w, nt := fn.ntmps, mods := mods } mem facts w)
    (h : J { P := P, w0 := w, nt := fn.ntmps, mods := mods } c (KretP { P := P, w0 := w, nt := fn.ntmps, mods := mods } fn R) { env := envOf 0 args, mem := mem, facts := facts }) : Calls P f args.toArray w R := by
  refine (callsIn_wide (n := 0)).1 (callsIn_of_wp hf hb trivial ?_)
  have hn' : args.length ≤ fn.ntmps := by simpa [Nat.ble_eq] using hn
  have := h { tmps := args.toArray ++ Array.replicate (fn.ntmps - args.toArray.size) undef, defers := [] } w ⟨⟨fun k v hk => ?_, by simp; omega, rfl⟩, hw⟩
  · refine Go.wpIn_mono this ?_
    rintro e a w ⟨s, h1, h2⟩
    cases e with
    | normal => exact h2 a w h1
    | ret => exact h2 a w h1
    | exit id => exact h2.elim
    | goto l => exact h2.elim
    | panic c => exact h2 a w h1
    | outgrown => exact h2.elim
  · obtain ⟨_, h2⟩ := get_envOf _ _ _ _ hk
    simp only [Nat.sub_zero] at h2
    have hl := (List.getElem?_eq_some_iff.1 h2).1
    have h3 := (List.getElem?_eq_some_iff.1 h2).2
    simp [Array.getElem?_append, hl, h3]
theorem KretP_plain {fn : Func} {R : Ending → World → Prop} (h : Kret cx fn R .ret st) : KretP cx fn R .ret st := h
theorem KretP_normal {fn : Func} {R : Ending → World → Prop} (h : KretP cx fn R .ret st) : KretP cx fn R .normal st := h
theorem KretP_panic {fn : Func} {R : Ending → World → Prop} {ch : List PanicEntry} (hd : st.ds = []) (h : ∀ w, OkW cx st.mem st.facts w → R (.panicked ch) w) : KretP cx fn R (.panic ch) st :=
  fun a w ho => ⟨ho.a.ds.trans hd, h w ho.w⟩

/-- A function that has deferred calls. -/
def KretD (cx : Cx) (fn : Func) (R : Ending → World → Prop) : Exit → St → Prop
  | .normal, st => ∀ a w, Ok cx st a w → LeavesIn (fen none) 0 cx.P fn a.tmps R st.ds .returning w
  | .ret, st => ∀ a w, Ok cx st a w → LeavesIn (fen none) 0 cx.P fn a.tmps R st.ds .returning w
  | .panic ch, st => ∀ a w, Ok cx st a w → LeavesIn (fen none) 0 cx.P fn a.tmps R st.ds (.panicking ch) w
  | _, _ => False
theorem KretD_normal {fn : Func} {R : Ending → World → Prop} (h : KretD cx fn R .ret st) : KretD cx fn R .normal st := h
theorem calls_of_d {P : Program} {f : FuncId} {fn : Func} {c : Code} {args : List Value} {w : World} {R : Ending → World → Prop} (mods : List Nat) (mem : Mem) (facts : List Fact) (hf : P.funcs[f]? = some fn) (hb : fn.body = some c)
    (hn : Nat.ble args.length fn.ntmps = true) (hw : OkW { P := P, w0 := w, nt := fn.ntmps, mods := mods } mem facts w)
    (h : J { P := P, w0 := w, nt := fn.ntmps, mods := mods } c (KretD { P := P, w0 := w, nt := fn.ntmps, mods := mods } fn R) { env := envOf 0 args, mem := mem, facts := facts }) : Calls P f args.toArray w R := by
  refine (callsIn_wide (n := 0)).1 (callsIn_of_wp_defers hf hb trivial ?_)
  have hn' : args.length ≤ fn.ntmps := by simpa [Nat.ble_eq] using hn
  have := h { tmps := args.toArray ++ Array.replicate (fn.ntmps - args.toArray.size) undef, defers := [] } w ⟨⟨fun k v hk => ?_, by simp; omega, rfl⟩, hw⟩
  · refine Go.wpIn_mono this ?_
    rintro e a w ⟨s, h1, h2⟩
    cases e with
    | normal =>
      have := h2 a w h1
      rw [← h1.a.ds] at this
      exact this
    | ret =>
      have := h2 a w h1
      rw [← h1.a.ds] at this
      exact this
    | exit id => exact h2.elim
    | goto l => exact h2.elim
    | panic c =>
      have := h2 a w h1
      rw [← h1.a.ds] at this
      exact this
    | outgrown => exact h2.elim
  · obtain ⟨_, h2⟩ := get_envOf _ _ _ _ hk
    simp only [Nat.sub_zero] at h2
    have hl := (List.getElem?_eq_some_iff.1 h2).1
    have h3 := (List.getElem?_eq_some_iff.1 h2).2
    simp [Array.getElem?_append, hl, h3]
/-- A call is deferred. -/
theorem L_defer {K : St → Prop} {x : Operand} {args : Array Operand} {at_ : Array TypeId} {fv : Fn} {first cap : Array Value} {vs : List Value} (hg : o.guard = none) (ho : o.op = .defer { callee := .value x, args := args, argTypes := at_ }) (hd : o.dst = none)
    (hx : ev st.env x = some (.func fv first cap)) (hv : evs st.env args.toList = some vs)
    (h : L cx ops K rest { st with ds := { target := .fn fv cap, args := first ++ vs.toArray } :: st.ds }) (hro : cx.ro = none) : L cx ops K (o :: rest) st := by
  refine L_cons hg fun Q next a w hok hk => ?_
  refine ⟨fun _ _ => trivial, ?_⟩
  have e1 : args.map a.eval = vs.toArray := Array.ext' (by rw [Array.toList_map, hok.a.evs hv])
  have hr : (o.semAt (fen cx.ro).round a.eval).run cx.P w = .ok (.defer { target := .fn fv cap, args := first ++ vs.toArray }) w := by
    rw [hro]
    show (o.semAt none a.eval).run cx.P w = _
    rw [Oper.semAt_none]
    unfold execOp
    rw [ho]
    simp only [resolve, hok.a.ev hx, e1, Deferred.ofValue, Sem.run_bind, Sem.run_pure, Result.andThen_ok]
  rw [hr, Oper.uponIn_defer, hd]
  refine hk { st with ds := { target := .fn fv cap, args := first ++ vs.toArray } :: st.ds } _ _ ⟨⟨hok.a.env, hok.a.size, ?_⟩, hok.w⟩ h
  show _ :: a.defers = _
  rw [hok.a.ds]
end
end Go.Sx
