/- Part 4 of the texts that the law leans on. -/
import Derived.Test.YtfdmjjhgdbpfeaaDoorCBa2
import Derived.RecoverIn
import Derived.Test.YtfdmjjhgdbpfeaaDoorCBa3
/- More rules: operations that panic; functions whose panics go through; a call that is deferred, and recovers. -/
set_option linter.unusedVariables false
set_option linter.unusedSimpArgs false
namespace Go.Sx
section
variable {cx : Cx} {ops : Array Oper} {Kx : Exit → St → Prop} {o : Oper} {rest : List Oper} {st : St}
/-- A region's operations, some of which may panic. -/
def LP (cx : Cx) (ops : Array Oper) (Kx : Exit → St → Prop) (l : List Oper) (st : St) : Prop :=
  ∀ a w, Ok cx st a w → wpListIn (fen cx.ro) 0 cx.P ops (fun e a w => ∃ st', Ok cx st' a w ∧ Kx e st') l a w
theorem J_regionP {id : Nat} {l : List Oper} (h : LP cx l.toArray Kx l st) : J cx (.region id l.toArray false) Kx st := fun a w ho => wpIn_region_lit (h a w ho)
theorem LP_nil (h : Kx .normal st) : LP cx ops Kx [] st := fun a w ho => wpListIn_nil ⟨st, ho, h⟩
theorem LP_le {l : List Oper} {st' : St} (hl : Le st' st) (h : LP cx ops Kx l st') : LP cx ops Kx l st := fun a w ho => h a w (ho.le hl)
theorem LP_pk {l : List Oper} (m' : Mem) (hp : Pk m' st.mem) (h : LP cx ops Kx l { st with mem := m' }) : LP cx ops Kx l st :=
  fun a w ho => h a w ⟨ho.a, ho.w.pk hp (fun f hf => hf)⟩
theorem LP_split {l : List Oper} (s : Nat) {b : Bool} (hs : get st.env s = some (.bool b)) (ht : b = true → LP cx ops Kx l (st.put s (.bool true))) (hf : b = false → LP cx ops Kx l (st.put s (.bool false))) : LP cx ops Kx l st := by
  intro a w ho
  cases b with
  | true => exact ht rfl a w ⟨put_same ho.a hs, ho.w⟩
  | false => exact hf rfl a w ⟨put_same ho.a hs, ho.w⟩
theorem LP_same {l : List Oper} (s : Nat) {v v' : Value} (hs : get st.env s = some v) (e : v = v') (h : LP cx ops Kx l (st.put s v')) : LP cx ops Kx l st :=
  fun a w ho => h a w ⟨put_same ho.a (e ▸ hs), ho.w⟩
theorem uponIn_only {F : Fence} {n : Nat} {P : Program} {a : Act} {next : Act → World → Prop} {Q Q' : Exit → Act → World → Prop} (hp : ∀ ch a w, Q' (.panic ch) a w → Q (.panic ch) a w) (ho : LetsOut Q' → LetsOut Q) (r : Result Next)
    (hh : o.uponIn F n P a next Q' r) : o.uponIn F n P a next Q r := by
  cases r with
  | ok x w' =>
    cases x <;> simp only [Oper.uponIn] at hh ⊢ <;>
      first
        | exact hh
        | exact ⟨hh.1, CallsIn.mono hh.2 (fun e w'' he => by cases e <;> first | exact he | exact hp _ _ _ he | exact ho he)⟩
        | exact ⟨hh.1, RoundIn.mono hh.2 (fun e w'' he => by cases e <;> first | exact he | exact hp _ _ _ he | exact ho he)⟩
  | halt x w' => cases x <;> simp only [Oper.uponIn] at hh ⊢ <;> first | exact hh | exact hp _ _ _ hh
/-- An operation by a rule for those that do not panic. -/
theorem LP_one (h : L cx ops (LP cx ops Kx rest) [o] st) : LP cx ops Kx (o :: rest) st := by
  intro a w ho
  have h1 := h (fun e a w => match e with | .normal => wpListIn (fen cx.ro) 0 cx.P ops (fun e a w => ∃ st', Ok cx st' a w ∧ Kx e st') rest a w | e => ∃ st', Ok cx st' a w ∧ Kx e st') a w ho (fun st' a' w' h1 h2 => h2 a' w' h1)
  unfold wpListIn at h1 ⊢
  split at h1
  · rename_i hw
    rw [if_pos hw]
    exact ⟨h1.1, uponIn_only (fun _ _ _ h => h) (fun h => h) _ h1.2⟩
  · rename_i hw
    rw [if_neg hw]
    exact h1
theorem LP_call {x : Operand} {args : Array Operand} {at_ : Array TypeId} {f : FuncId} {first cap : Array Value} {vs : List Value} (hg : o.guard = none) (ho : o.op = .call { callee := .value x, args := args, argTypes := at_ })
    (hx : ev st.env x = some (.func (.func f) first cap)) (hv : evs st.env args.toList = some vs) (hf : Txt cx.P f)
    (hc : ∀ w, OkW cx st.mem st.facts w → Calls cx.P f (first ++ vs.toArray ++ cap) w fun e w' => (∃ v m fs, e = .returned v ∧ OkW cx m fs w' ∧
      (match o.dst with
       | some d => Nat.blt d cx.nt = true ∧ LP cx ops Kx rest { st with env := (d, v) :: st.env, mem := m, facts := fs }
       | none => LP cx ops Kx rest { st with mem := m, facts := fs })) ∨ (∃ ch m fs, e = .panicked ch ∧ OkW cx m fs w' ∧ Kx (.panic ch) { st with mem := m, facts := fs })) : LP cx ops Kx (o :: rest) st := by
  intro a w hok
  refine wpListIn_plain hg fun K' hK' => ?_
  refine ⟨fun _ _ => trivial, ?_⟩
  rw [Oper.semAt_eq _ _ _ (nd ho (fun c h => by cases h)), run_callF hok.a ho hx hv hf w]
  refine ⟨fun h => (by cases h), ?_⟩
  refine callsIn_fen ((hc w hok.w).mono ?_)
  rintro e w' (⟨v, m, fs, rfl, hw', hL⟩ | ⟨ch, m, fs, rfl, hw', hK⟩)
  · cases hd : o.dst with
    | none =>
      rw [hd] at hL
      exact hK' _ _ (hL a w' (⟨hok.a, hw'⟩ : Ok cx { st with mem := m, facts := fs } a w'))
    | some d =>
      rw [hd] at hL
      exact hK' _ _ (hL.2 _ w' (⟨hok.a.put hL.1 v, hw'⟩ : Ok cx { st with env := (d, v) :: st.env, mem := m, facts := fs } _ w'))
  · exact ⟨{ st with mem := m, facts := fs }, ⟨hok.a, hw'⟩, hK⟩
theorem LP_panic {x : Operand} {t : TypeId} {v : Value} (hg : o.guard = none) (ho : o.op = .panic x) (hx : ev st.env x = some (.iface t v)) (hk : Kx (.panic [{ v := .iface t v, recovered := false }]) st) : LP cx ops Kx (o :: rest) st := by
  intro a w hok
  refine wpListIn_plain hg fun K' hK' => ?_
  refine ⟨fun _ _ => trivial, ?_⟩
  rw [Oper.semAt_eq _ _ _ (nd ho (fun c h => by cases h))]
  have hr : (execOp a.eval o).run cx.P w = .halt (.panic (.iface t v)) w := by
    unfold execOp; rw [ho]
    simp only [hok.a.ev hx, Instr.panic]
    rfl
  rw [hr]
  exact ⟨st, hok, hk⟩

/-- A function whose panics go through. -/
def KretP (cx : Cx) (fn : Func) (R : Ending → World → Prop) : Exit → St → Prop
  | .normal, st => ∀ a w, Ok cx st a w → bodyPost cx.P fn R .ret a w
  | .ret, st => ∀ a w, Ok cx st a w → bodyPost cx.P fn R .ret a w
  | .panic ch, st => ∀ a w, Ok cx st a w → bodyPost cx.P fn R (.panic ch) a w
  | _, _ => False
theorem calls_of_p {P : Program} {f : FuncId} {fn : Func} {c : Code} {args : List Value} {w : World} {R : Ending → World → Prop} (mods : List Nat) (mem : Mem) (facts : List Fact) (hf : P.funcs[f]? = some fn) (hb : fn.body = some c)
    (hn : Nat.ble args.length fn.ntmps = true) (hw : OkW { P := P, w0 := w, nt := fn.ntmps, mods := mods } mem facts w)
    (h : J { P := P, w0 := w, nt := fn.ntmps, mods := mods } c (KretP { P := P, w0 := w, nt := fn.ntmps, mods := mods } fn R) { env := envOf 0 args, mem := mem, facts := facts }) : Calls P f args.toArray w R := by
  refine (callsIn_wide (n := 0)).1 (callsIn_of_wp hf hb trivial ?_)
  have hn' : args.length ≤ fn.ntmps := by simpa [Nat.ble_eq] using hn
  have := h { tmps := args.toArray ++ Array.replicate (fn.ntmps - args.toArray.size) undef, defers := [] } w ⟨⟨fun k v hk => ?_, by simp; omega, rfl⟩, hw⟩
  · refine Go.wpIn_mono this ?_
    rintro e a w ⟨s, h1, h2⟩
    cases e with
    | normal => exact h2 a w h1
    | ret => exact h2 a w h1
    | exit id => exact h2.elim
    | goto l => exact h2.elim
    | panic c => exact h2 a w h1
    | outgrown => exact h2.elim
  · obtain ⟨_, h2⟩ := get_envOf _ _ _ _ hk
    simp only [Nat.sub_zero] at h2
    have hl := (List.getElem?_eq_some_iff.1 h2).1
    have h3 := (List.getElem?_eq_some_iff.1 h2).2
    simp [Array.getElem?_append, hl, h3]
theorem KretP_plain {fn : Func} {R : Ending → World → Prop} (h : Kret cx fn R .ret st) : KretP cx fn R .ret st := h
theorem KretP_normal {fn : Func} {R : Ending → World → Prop} (h : KretP cx fn R .ret st) : KretP cx fn R .normal st := h
theorem KretP_panic {fn : Func} {R : Ending → World → Prop} {ch : List PanicEntry} (hd : st.ds = []) (h : ∀ w, OkW cx st.mem st.facts w → R (.panicked ch) w) : KretP cx fn R (.panic ch) st :=
  fun a w ho => ⟨ho.a.ds.trans hd, h w ho.w⟩

/-- A function that has deferred calls. -/
def KretD (cx : Cx) (fn : Func) (R : Ending → World → Prop) : Exit → St → Prop
  | .normal, st => ∀ a w, Ok cx st a w → LeavesIn (fen none) 0 cx.P fn a.tmps R st.ds .returning w
  | .ret, st => ∀ a w, Ok cx st a w → LeavesIn (fen none) 0 cx.P fn a.tmps R st.ds .returning w
  | .panic ch, st => ∀ a w, Ok cx st a w → LeavesIn (fen none) 0 cx.P fn a.tmps R st.ds (.panicking ch) w
  | _, _ => False
theorem KretD_normal {fn : Func} {R : Ending → World → Prop} (h : KretD cx fn R .ret st) : KretD cx fn R .normal st := h
theorem calls_of_d {P : Program} {f : FuncId} {fn : Func} {c : Code} {args : List Value} {w : World} {R : Ending → World → Prop} (mods : List Nat) (mem : Mem) (facts : List Fact) (hf : P.funcs[f]? = some fn) (hb : fn.body = some c)
    (hn : Nat.ble args.length fn.ntmps = true) (hw : OkW { P := P, w0 := w, nt := fn.ntmps, mods := mods } mem facts w)
    (h : J { P := P, w0 := w, nt := fn.ntmps, mods := mods } c (KretD { P := P, w0 := w, nt := fn.ntmps, mods := mods } fn R) { env := envOf 0 args, mem := mem, facts := facts }) : Calls P f args.toArray w R := by
  refine (callsIn_wide (n := 0)).1 (callsIn_of_wp_defers hf hb trivial ?_)
  have hn' : args.length ≤ fn.ntmps := by simpa [Nat.ble_eq] using hn
  have := h { tmps := args.toArray ++ Array.replicate (fn.ntmps - args.toArray.size) undef, defers := [] } w ⟨⟨fun k v hk => ?_, by simp; omega, rfl⟩, hw⟩
  · refine Go.wpIn_mono this ?_
    rintro e a w ⟨s, h1, h2⟩
    cases e with
    | normal =>
      have := h2 a w h1
      rw [← h1.a.ds] at this
      exact this
    | ret =>
      have := h2 a w h1
      rw [← h1.a.ds] at this
      exact this
    | exit id => exact h2.elim
    | goto l => exact h2.elim
    | panic c =>
      have := h2 a w h1
      rw [← h1.a.ds] at this
      exact this
    | outgrown => exact h2.elim
  · obtain ⟨_, h2⟩ := get_envOf _ _ _ _ hk
    simp only [Nat.sub_zero] at h2
    have hl := (List.getElem?_eq_some_iff.1 h2).1
    have h3 := (List.getElem?_eq_some_iff.1 h2).2
    simp [Array.getElem?_append, hl, h3]
/-- A call is deferred. -/
theorem L_defer {K : St → Prop} {x : Operand} {args : Array Operand} {at_ : Array TypeId} {fv : Fn} {first cap : Array Value} {vs : List Value} (hg : o.guard = none) (ho : o.op = .defer { callee := .value x, args := args, argTypes := at_ }) (hd : o.dst = none)
    (hx : ev st.env x = some (.func fv first cap)) (hv : evs st.env args.toList = some vs)
    (h : L cx ops K rest { st with ds := { target := .fn fv cap, args := first ++ vs.toArray } :: st.ds }) (hro : cx.ro = none) : L cx ops K (o :: rest) st := by
  refine L_cons hg fun Q next a w hok hk => ?_
  refine ⟨fun _ _ => trivial, ?_⟩
  have e1 : args.map a.eval = vs.toArray := Array.ext' (by rw [Array.toList_map, hok.a.evs hv])
  have hr : (o.semAt (fen cx.ro).round a.eval).run cx.P w = .ok (.defer { target := .fn fv cap, args := first ++ vs.toArray }) w := by
    rw [hro]
    show (o.semAt none a.eval).run cx.P w = _
    rw [Oper.semAt_none]
    unfold execOp
    rw [ho]
    simp only [resolve, hok.a.ev hx, e1, Deferred.ofValue, Sem.run_bind, Sem.run_pure, Result.andThen_ok]
  rw [hr, Oper.uponIn_defer, hd]
  refine hk { st with ds := { target := .fn fv cap, args := first ++ vs.toArray } :: st.ds } _ _ ⟨⟨hok.a.env, hok.a.size, ?_⟩, hok.w⟩ h
  show _ :: a.defers = _
  rw [hok.a.ds]
end
end Go.Sx

/- More rules: what lays bytes into a block's slice, and panics if it can't; interfaces; parts of wide blocks; a block of one's own that is only read from now on. -/
set_option linter.unusedVariables false
set_option linter.unusedSimpArgs false
namespace Go.Sx
section
variable {cx : Cx} {ops : Array Oper} {Kx : Exit → St → Prop} {K : St → Prop} {o : Oper} {rest : List Oper} {st : St}
theorem V_makeIface {t : TypeId} {d : TypeDesc} {x : Operand} {v : Value} (ho : o.op = .makeInterface t x) (hx : ev st.env x = some v) (hu : cx.P.underlying t = some d) (hd : (match d with | .interface _ => false | _ => true) = true) : V cx o st (.iface t v) :=
  ⟨nd ho (fun c h => by cases h), fun a w h => by
    unfold execOp; rw [ho]
    simp only [h.a.ev hx, Instr.makeInterface, Sem.run_bind, run_underlying hu, Result.andThen_ok]
    cases d <;> first | rfl | (simp at hd)⟩
theorem V_typeAssert {xt t : TypeId} {fs : Array Field} {x : Operand} {v : Value} (ho : o.op = .typeAssert x xt t false) (hx : ev st.env x = some (.iface t v)) (hu : cx.P.underlying t = some (.struct fs)) : V cx o st v :=
  ⟨nd ho (fun c h => by cases h), fun a w h => by
    unfold execOp; rw [ho]
    simp only [h.a.ev hx, Instr.typeAssert, Sem.run_bind, run_underlying hu, Result.andThen_ok, if_true]
    rfl⟩
/-- A part of a block of the list, taken as it stands. -/
theorem V_loadT {t : TypeId} {x : Operand} {d : TypeDesc} (i : Nat) {b off sz : Nat} {l vs : List Value} {T : TypeId} {fz : Nat × Nat} (ho : o.op = .load t x) (hx : ev st.env x = some (.pointer (some ⟨b, off, none⟩)))
    (hi : st.mem[i]? = some (b, .cells l.toArray T fz)) (hu : cx.P.underlying t = some d) (hs : scalarB d = false) (hz : (cx.P.info? t).map (·.size) = some sz) (hp : (l.drop off).take sz = vs) (hl : vs.length = sz) : V cx o st (.agg vs.toArray) := by
  refine V_loadP i (l := l) (vs := vs) ho hx hi hu hs (by rw [hl]; exact hz) (fun j hj => ?_)
  rw [← hp, List.getElem?_take, if_pos (by omega), List.getElem?_drop]
/-- A store of a part of a block of one's own. -/
theorem L_storeT {t : TypeId} {x y : Operand} (i : Nat) {b off : Nat} {l vs l' : List Value} {T : TypeId} (hg : o.guard = none) (ho : o.op = .store t x y) (hd : o.dst = none) (hx : ev st.env x = some (.pointer (some ⟨b, off, none⟩))) (hy : ev st.env y = some (.agg vs.toArray))
    (hi : st.mem[i]? = some (b, row T l)) (hz : (cx.P.info? t).map (·.size) = some vs.length) (h1 : ∀ u ∈ vs, u.oneCell' = true) (hfit : off + vs.length ≤ l.length) (hl : l.take off ++ vs ++ l.drop (off + vs.length) = l')
    (h : L cx ops K rest { st with mem := st.mem.set i (b, row T l') }) : L cx ops K (o :: rest) st :=
  L_cons hg (S_store i ho hd hx hy hi rfl hz h1 hfit hl h)

theorem S_store1 {t : TypeId} {x y : Operand} (i : Nat) {b off : Nat} {l l' : List Value} {T : TypeId} {v : Value} (ho : o.op = .store t x y) (hd : o.dst = none) (hx : ev st.env x = some (.pointer (some ⟨b, off, none⟩))) (hy : ev st.env y = some v)
    (hi : st.mem[i]? = some (b, row T l)) (h1 : v.oneCell' = true) (hz : (cx.P.info? t).map (·.size) = some 1) (hfit : off < l.length) (hl : l.set off v = l')
    (h : K { st with mem := st.mem.set i (b, row T l') }) : S cx o K st :=
  S_store i (vs := [v]) ho hd hx hy hi (by cases v <;> first | rfl | (simp [Value.oneCell'] at h1)) hz (by simpa using h1) (by simp only [List.length_singleton]; omega) (by
    rw [← hl, List.set_eq_take_append_cons_drop, if_pos hfit]; simp) h
/-- What was thrown. -/
def stp (S : TypeId) (k : Int) : PanicEntry := { v := .iface S (.agg [.int .i64 k].toArray), recovered := false }
/-- Bytes in a row of their own, with room behind them; or nil. -/
def SlR (w : World) (v : Value) (l : List Int) : Prop :=
  (l = [] ∧ v = .slice none 0 0) ∨ (l ≠ [] ∧ ∃ g c r, v = .slice (some ⟨g, 0, none⟩) l.length c ∧ w.heap[g]? = some (row 5 (dg l ++ r)) ∧ r.length = c - l.length ∧ l.length ≤ c)
theorem SlR.toB {w : World} {v : Value} {l : List Int} (h : SlR w v l) : SlB w v l := by
  rcases h with ⟨rfl, rfl⟩ | ⟨hne, g, c, r, rfl, hg, hr, hc⟩
  · exact .inl ⟨rfl, none, 0, rfl⟩
  · refine .inr ⟨g, 0, c, rfl, fun j x hj => cell_of hg ?_⟩
    have hlt := (List.getElem?_eq_some_iff.1 hj).1
    rw [Nat.zero_add, List.getElem?_toArray, List.getElem?_append_left (by rw [dg_length]; exact hlt)]
    simp [dg, hj]
theorem SlR.dep {w w' : World} {v : Value} {l : List Int} (hk : ∀ k, (factB v l).fp k → w'.heap[k]? = w.heap[k]?) (h : SlR w v l) : SlR w' v l := by
  rcases h with h | ⟨hne, g, c, r, rfl, hg, hr, hc⟩
  · exact .inl h
  · exact .inr ⟨hne, g, c, r, rfl, by rw [hk g ⟨hne, _, _, _, rfl⟩]; exact hg, hr, hc⟩
theorem SlR.nil (w : World) : SlR w (.slice none 0 0) [] := .inl ⟨rfl, rfl⟩
theorem SlR.size {w : World} {a : Option Addr} {n c : Nat} {l : List Int} (h : SlR w (.slice a n c) l) : l.length = n := h.toB.size
theorem SlR.of_own {m : Mem} {fs : List Fact} {w : World} {cx : Cx} {i g n c : Nat} {l : List Int} {r : List Value} (h : OkW cx m fs w) (hi : m[i]? = some (g, row 5 (dg l ++ r))) (hl : l.length = n) (hne : l ≠ []) (hc : n ≤ c) (hr : r.length = c - n) : SlR w (.slice (some ⟨g, 0, none⟩) n c) l := by
  subst hl
  exact .inr ⟨hne, g, c, r, rfl, h.at hi, hr, hc⟩
def factR (v : Value) (l : List Int) : Fact := { fp := (factB v l).fp, p := fun w => SlR w v l, dep := fun _ _ hk h => SlR.dep hk h }
theorem fR {cx : Cx} {m : Mem} {fs : List Fact} {w : World} (h : OkW cx m fs w) (i : Nat) {u : Value} {l : List Int} (hi : fs[i]? = some (factR u l)) : SlR w u l := (h.facts _ (List.mem_of_getElem? hi)).1
/-- A call that lays bytes behind those that block b's slice reads as; or throws. -/
def OutP (T S : TypeId) (w : World) (b : Nat) (v0 : Value) (L : List Int) (r : Except Int (List Int)) : Ending → World → Prop := fun e w' => Fr [b] w w' ∧ match r with
  | .ok M => e = .returned (.tuple #[]) ∧ ∃ a n c, w'.heap[b]? = some (row T [.slice a n c]) ∧ SlR w' (.slice a n c) (L ++ M) ∧ n ≤ c ∧ ∀ k, (factB (.slice a n c) (L ++ M)).fp k → w.heap.size ≤ k ∨ (factB v0 L).fp k
  | .error k => e = .panicked [stp S k]
theorem OutP.err {T S : TypeId} {w w' : World} {b : Nat} {v0 : Value} {L : List Int} {r : Except Int (List Int)} {k : Int} (hr : r = .error k) (hfr : Fr [b] w w') : OutP T S w b v0 L r (.panicked [stp S k]) w' := by
  subst hr
  exact ⟨hfr, rfl⟩
theorem OutP.ok {T S : TypeId} {w w' : World} {b : Nat} {v0 : Value} {L M L' : List Int} {r : Except Int (List Int)} {a : Option Addr} {n c : Nat} (hr : r = .ok M) (hfr : Fr [b] w w') (hb : w'.heap[b]? = some (row T [.slice a n c])) (hL : L' = L ++ M) (hs : SlR w' (.slice a n c) L') (hc : n ≤ c)
    (hn : ∀ k, (factB (.slice a n c) L').fp k → w.heap.size ≤ k ∨ (factB v0 L).fp k) : OutP T S w b v0 L r (.returned (.tuple #[])) w' := by
  subst hr hL
  exact ⟨hfr, rfl, a, n, c, hb, hs, hc, hn⟩
/-- What block b's slice reads as stays known: where its bytes may lie. -/
def Nw (w : World) (v0 : Value) (L : List Int) (v : Value) (l : List Int) : Prop := ∀ k, (factB v l).fp k → w.heap.size ≤ k ∨ (factB v0 L).fp k
theorem Nw.refl (w : World) (v0 : Value) (L : List Int) : Nw w v0 L v0 L := fun k hk => .inr hk

theorem OkW.out {m : Mem} {fs : List Fact} {w w' : World} {v v' : Value} {L L' : List Int} {p p' : Obj} {b i : Nat} (h : OkW cx m (factR v L :: fs) w) (hi : m[i]? = some (b, p)) (hfr : Fr [b] w w') (hb : w'.heap[b]? = some p') (hs : SlR w' v' L')
    (hn : ∀ k, (factB v' L').fp k → w.heap.size ≤ k ∨ (factB v L).fp k) : OkW cx (m.set i (b, p')) (factR v' L' :: fs) w' := by
  have hk : (m.set i (b, p')).map (·.1) = m.map (·.1) := nodup_set hi
  have hbm : b ∈ m.map (·.1) := List.mem_map.2 ⟨_, List.mem_of_getElem? hi, rfl⟩
  have h1 := (h.sub (List.Sublist.refl _) (fun f hf => List.mem_cons_of_mem _ hf) (fs' := fs)).set hi hfr hb
  refine ⟨h1.mem, h1.dis, h1.may, fun f hf => ?_, h1.fr⟩
  rcases List.mem_cons.1 hf with rfl | hf
  · refine ⟨hs, fun k hk2 => ⟨factB_lt hs.toB k hk2, fun hm => ?_⟩⟩
    rw [hk] at hm
    rcases hn k hk2 with h2 | h2
    · have := h.lt hm
      omega
    · exact ((h.facts _ (List.mem_cons_self ..)).2 k h2).2 hm
  · exact h1.facts f hf
theorem LP_out {x : Operand} {args : Array Operand} {at_ : Array TypeId} {f : FuncId} {first cap : Array Value} {vs : List Value} {d b : Nat} {T S : TypeId} {v : Value} {L : List Int} {fs : List Fact} {r : Except Int (List Int)} {p : Obj} (i : Nat) (hg : o.guard = none) (ho : o.op = .call { callee := .value x, args := args, argTypes := at_ })
    (hd : o.dst = some d) (hlt : Nat.blt d cx.nt = true) (hx : ev st.env x = some (.func (.func f) first cap)) (hv : evs st.env args.toList = some vs) (hf : Txt cx.P f) (hi : st.mem[i]? = some (b, p)) (hfs : st.facts = factR v L :: fs)
    (hc : ∀ w, OkW cx st.mem st.facts w → Calls cx.P f (first ++ vs.toArray ++ cap) w (OutP T S w b v L r))
    (herr : ∀ k, r = .error k → Kx (.panic [stp S k]) { st with mem := [], facts := [] })
    (hok : ∀ M a n c, r = .ok M → n ≤ c → (∀ v0 L0, Nw cx.w0 v0 L0 v L → Nw cx.w0 v0 L0 (.slice a n c) (L ++ M)) → LP cx ops Kx rest { st with env := (d, .tuple #[]) :: st.env, mem := st.mem.set i (b, row T [.slice a n c]), facts := factR (.slice a n c) (L ++ M) :: fs }) : LP cx ops Kx (o :: rest) st := by
  refine LP_call hg ho hx hv hf fun w hw => (hc w hw).mono ?_
  rintro e w' ⟨hfr, hR⟩
  have hbm : b ∈ st.mem.map (·.1) := List.mem_map.2 ⟨_, List.mem_of_getElem? hi, rfl⟩
  cases r with
  | error k =>
    simp only at hR
    subst hR
    exact .inr ⟨_, [], [], rfl, hw.step hfr (by simpa using hbm) (by simp) (by simp) (by simp), herr k rfl⟩
  | ok M =>
    obtain ⟨rfl, a, n, c, hb, hs, hnc, hn⟩ := hR
    rw [hfs] at hw
    refine .inl ⟨_, _, _, rfl, hw.out hi hfr hb hs hn, ?_⟩
    rw [hd]
    refine ⟨hlt, hok M a n c rfl hnc fun v0 L0 h k hk => ?_⟩
    rcases hn k hk with h1 | h1
    · exact .inl (Nat.le_trans hw.fr.size h1)
    · exact h k h1
/-- A row of one's own is only read from now on. -/
theorem OkW.toFact {m : Mem} {fs : List Fact} {w : World} {g n : Nat} {U : TypeId} {l : List Int} {r : List Value} (h : OkW cx (m ++ [(g, row U (dg l ++ r))]) fs w) (hl : l.length = n) (c : Nat) : OkW cx m (factB (.slice (some ⟨g, 0, none⟩) n c) l :: fs) w := by
  have h1 := h.sub (List.sublist_append_left _ _) (fun f hf => hf)
  have hat : (m ++ [(g, row U (dg l ++ r))])[m.length]? = some (g, row U (dg l ++ r)) := by rw [List.getElem?_append_right (Nat.le_refl _), Nat.sub_self]; rfl
  refine ⟨h1.mem, h1.dis, h1.may, fun f hf => ?_, h1.fr⟩
  rcases List.mem_cons.1 hf with rfl | hf
  · have hs : SlB w (.slice (some ⟨g, 0, none⟩) n c) l := SlB.of_own h hat hl c
    refine ⟨hs, fun k hk => ⟨factB_lt hs k hk, ?_⟩⟩
    obtain ⟨_, off, n', c', e⟩ := hk
    simp only [Value.slice.injEq, Option.some.injEq, Addr.mk.injEq] at e
    obtain ⟨⟨rfl, _⟩, _⟩ := e
    have := h.dis
    rw [List.map_append, List.nodup_append] at this
    intro hm
    exact this.2.2 _ hm _ (by simp) rfl
  · exact h1.facts f hf
theorem L_toFact {l : List Oper} (m : Mem) {g n c : Nat} {U : TypeId} {d : List Int} {r : List Value} (hm : st.mem = m ++ [(g, row U (dg d ++ r))]) (hl : d.length = n) (h : (cx.w0.heap.size ≤ g ∨ g ∈ cx.mods) → (g ∉ m.map (·.1)) → L cx ops K l { st with mem := m, facts := factB (.slice (some ⟨g, 0, none⟩) n c) d :: st.facts }) : L cx ops K l st := by
  intro Q a w ho hk
  have hw := ho.w
  rw [hm] at hw
  refine h (hw.may g (by simp)) ?_ Q a w ⟨ho.a, hw.toFact hl c⟩ hk
  have := hw.dis
  rw [List.map_append, List.nodup_append] at this
  intro hm
  exact this.2.2 _ hm _ (by simp) rfl
theorem OkW.toFactR {m : Mem} {fs : List Fact} {w : World} {g n c : Nat} {l : List Int} {r : List Value} (h : OkW cx (m ++ [(g, row 5 (dg l ++ r))]) fs w) (hl : l.length = n) (hne : l ≠ []) (hc : n ≤ c) (hr : r.length = c - n) : OkW cx m (factR (.slice (some ⟨g, 0, none⟩) n c) l :: fs) w := by
  have hat : (m ++ [(g, row 5 (dg l ++ r))])[m.length]? = some (g, row 5 (dg l ++ r)) := by rw [List.getElem?_append_right (Nat.le_refl _), Nat.sub_self]; rfl
  have h1 := h.toFact hl c
  refine ⟨h1.mem, h1.dis, h1.may, fun f hf => ?_, h1.fr⟩
  rcases List.mem_cons.1 hf with rfl | hf
  · exact ⟨SlR.of_own h hat hl hne hc hr, (h1.facts _ (List.mem_cons_self ..)).2⟩
  · exact h1.facts f (List.mem_cons_of_mem _ hf)
theorem L_toFactR {l : List Oper} (m : Mem) {g n c : Nat} {d : List Int} {r : List Value} (hm : st.mem = m ++ [(g, row 5 (dg d ++ r))]) (hl : d.length = n) (hne : d ≠ []) (hc : n ≤ c) (hr : r.length = c - n) (h : (cx.w0.heap.size ≤ g ∨ g ∈ cx.mods) → (g ∉ m.map (·.1)) → L cx ops K l { st with mem := m, facts := factR (.slice (some ⟨g, 0, none⟩) n c) d :: st.facts }) : L cx ops K l st := by
  intro Q a w ho hk
  have hw := ho.w
  rw [hm] at hw
  refine h (hw.may g (by simp)) ?_ Q a w ⟨ho.a, hw.toFactR hl hne hc hr⟩ hk
  have := hw.dis
  rw [List.map_append, List.nodup_append] at this
  intro hm
  exact this.2.2 _ hm _ (by simp) rfl
theorem SlC.apartI {w : World} {a : Option Addr} {n c : Nat} {xs : List Int} {k : IntKind} {b : Nat} {T : TypeId} {v : Value} {l : List Value} (h : SlC 1 w (.slice a n c) n (xs.map (Value.int k))) (hb : w.heap[b]? = some (row T (v :: l))) (hl : ∀ u ∈ v :: l, ∀ x, u ≠ .int k x) : ∀ j, (factC 1 (.slice a n c) n (xs.map (Value.int k))).fp j → j ≠ b := by
  rintro j ⟨hne, off, n', c', e⟩ rfl
  simp only [Value.slice.injEq] at e
  obtain ⟨rfl, rfl, rfl⟩ := e
  cases xs with
  | nil => exact hne rfl
  | cons x xs =>
    obtain ⟨b', off', e', hc⟩ := h.cell (j := 0) (x := .int k x) rfl
    simp only [Option.some.injEq, Addr.mk.injEq] at e'
    obtain ⟨rfl, rfl, _⟩ := e'
    simp only [World.cell?, hb] at hc
    have hm : Value.int k x ∈ v :: l := by
      simp only [Nat.add_zero, List.getElem?_toArray, if_true] at hc
      exact List.mem_of_getElem? hc
    exact hl _ hm x rfl
theorem okM {P : Program} {w : World} {nt : Nat} {b : Nat} {p : Obj} {fs : List Fact} (hb : w.heap[b]? = some p) (hf : ∀ f ∈ fs, f.p w ∧ ∀ k, f.fp k → k < w.heap.size ∧ k ≠ b) : OkW { P := P, w0 := w, nt := nt, mods := [b] } [(b, p)] fs w := okM1 hb hf
end
end Go.Sx

/- More rules: a function that is deferred and recovers; one that defers it. -/
set_option linter.unusedVariables false
set_option linter.unusedSimpArgs false
namespace Go.Sx
theorem recoverD_yes {c : Frame} {cs : List Frame} {v : Value} {older : List PanicEntry} (h : c.mode = .panicking ({ v := v, recovered := false } :: older)) : recoverD (c :: cs) = some (v, { c with mode := .panicking ({ v := v, recovered := true } :: older) } :: cs) := by
  simp [recoverD, h]
theorem recoverD_no {c : Frame} {cs : List Frame} (h : c.mode = .returning) : recoverD (c :: cs) = none := by
  simp [recoverD, h]
section
variable {F : Fence} {P : Program} {Q : Exit → Act → List Frame → World → Prop} {a : Act} {cs cs' : List Frame} {w : World} {o0 o1 : Oper} {d d' id : Nat}
theorem rec_region (hF : ∀ f, F.fn f) (h0 : o0.op = .call { callee := .builtin .recover, args := #[], argTypes := #[] }) (g0 : o0.guard = none) (d0 : o0.dst = some d) (h1 : o1.op = .assign (.tmp d)) (g1 : o1.guard = none) (d1 : o1.dst = some d') (hd : d < a.tmps.size) (v : Value)
    (hr : recoverD cs = some (v, cs') ∨ (recoverD cs = none ∧ v = .nilIface ∧ cs' = cs)) (h : Q .normal ((a.put (some d) v).put (some d') v) cs' w) : (Code.region id #[o0, o1] false).wpSIn F 0 P Q a cs w := by
  apply wpSIn_region
  have e0 : (execOp a.eval o0).run P w = .ok .recover w := by
    unfold execOp; rw [h0]
    rfl
  have ev : (a.put (some d) v).eval (.tmp d) = v := by simp [Act.put, Act.eval, hd]
  have e1 : (execOp (a.put (some d) v).eval o1).run P w = .ok (.value v) w := by
    unfold execOp; rw [h1]
    simp only [ev]
    rfl
  show wpOpsSIn F 0 P #[o0, o1] Q [0, 1] a cs w
  unfold wpOpsSIn
  simp only [List.getElem?_toArray, List.getElem?_cons_zero, Region.wanted, g0, if_true, e0]
  refine ⟨fun f _ => hF f, ?_⟩
  have fin : ∀ cs1, cs1 = cs' → wpOpsSIn F 0 P #[o0, o1] Q [1] (a.put (some d) v) cs1 w := by
    rintro _ rfl
    unfold wpOpsSIn
    simp only [List.getElem?_toArray, List.getElem?_cons_succ, List.getElem?_cons_zero, Region.wanted, g1, if_true, e1]
    refine ⟨fun f _ => hF f, ?_⟩
    unfold wpOpsSIn
    rw [d1]
    exact h
  rcases hr with hr | ⟨hr, rfl, rfl⟩
  · rw [hr]
    simp only [d0]
    exact fin _ rfl
  · rw [hr]
    simp only [d0]
    exact fin _ rfl
end
section
variable {cx : Cx}
/-- Behind what recovers: the rest of the function that is deferred. -/
def KretS (cx : Cx) (fn : Func) (c₀ : Frame) (cs cs' : List Frame) (R : Ending → FrameMode → World → Prop) : Exit → St → Prop
  | .normal, st => ∀ a w, Ok cx st a w → bodyPostS cx.P fn c₀ cs R .ret a cs' w
  | .ret, st => ∀ a w, Ok cx st a w → bodyPostS cx.P fn c₀ cs R .ret a cs' w
  | _, _ => False
theorem wpSIn_of_J {c : Code} {fn : Func} {c₀ : Frame} {cs cs' : List Frame} {R : Ending → FrameMode → World → Prop} {st : St} {a : Act} {w : World} (hro : cx.ro = none) (h : J cx c (KretS cx fn c₀ cs cs' R) st) (ho : Ok cx st a w) : c.wpSIn (fen none) 0 cx.P (bodyPostS cx.P fn c₀ cs R) a cs' w := by
  have h1 := h a w ho
  rw [hro] at h1
  refine wpSIn_of_wpIn rfl (Go.wpIn_mono h1 ?_)
  rintro e a w ⟨s, h2, h3⟩
  cases e with
  | normal => exact h3 a w h2
  | ret => exact h3 a w h2
  | exit id => exact h3.elim
  | goto l => exact h3.elim
  | panic c => exact h3.elim
  | outgrown => exact h3.elim
theorem KretS_normal {fn : Func} {c₀ : Frame} {cs : List Frame} {u : FrameMode} {R : Ending → FrameMode → World → Prop} {st : St} (hr : fn.results = #[]) (hd : st.ds = []) (h : ∀ w, OkW cx st.mem st.facts w → R (.returned (.tuple #[])) u w) : KretS cx fn c₀ cs ({ c₀ with mode := u } :: cs) R .normal st :=
  fun a w ho => ⟨ho.a.ds.trans hd, u, rfl, .tuple #[], by simp [results, hr], h w ho.w⟩
end
section
variable {cx : Cx} {o : Oper} {st : St}
theorem run_eqIN {P : Program} {t : TypeId} {ms : Array (String × TypeId)} (w : World) (d : Nat) (hu : P.underlying t = some (.interface ms)) (tv : TypeId) (v : Value) : (Op.equalIn (d + 1) t (.iface tv v) .nilIface).run P w = .ok false w := by simp [Op.equalIn, run_underlying hu]
theorem run_eqNN {P : Program} {t : TypeId} {ms : Array (String × TypeId)} (w : World) (d : Nat) (hu : P.underlying t = some (.interface ms)) : (Op.equalIn (d + 1) t .nilIface .nilIface).run P w = .ok true w := by simp [Op.equalIn, run_underlying hu]
theorem V_neIface {t yt : TypeId} {ms : Array (String × TypeId)} {x y : Operand} {tv : TypeId} {v : Value} (ho : o.op = .binOp .neq t x y yt) (hx : ev st.env x = some (.iface tv v)) (hy : ev st.env y = some .nilIface) (hu : cx.P.underlying t = some (.interface ms)) : V cx o st (.bool true) :=
  ⟨nd ho (fun c h => by cases h), fun a' w h => by
    unfold execOp; rw [ho]
    have hg : (eqGuard .neq t x y (.iface tv v) .nilIface).run cx.P w = .ok () w := rfl
    have he : (Op.equal t (.iface tv v) .nilIface).run cx.P w = .ok false w := run_eqIN w 9999 hu tv v
    simp only [h.a.ev hx, h.a.ev hy, Sem.run_bind, hg, Result.andThen_ok, binOp, he, Sem.run_pure]
    rfl⟩
theorem V_neNil {t yt : TypeId} {ms : Array (String × TypeId)} {x : Operand} (ho : o.op = .binOp .neq t x (.const .nilIface) yt) (hx : ev st.env x = some .nilIface) (hu : cx.P.underlying t = some (.interface ms)) : V cx o st (.bool false) :=
  ⟨nd ho (fun c h => by cases h), fun a' w h => by
    unfold execOp; rw [ho]
    have hg : (eqGuard .neq t x (.const .nilIface) .nilIface .nilIface).run cx.P w = .ok () w := by
      unfold eqGuard
      cases x <;> rfl
    have he : (Op.equal t .nilIface .nilIface).run cx.P w = .ok true w := run_eqNN w 9999 hu
    have e2 : a'.eval (.const .nilIface) = .nilIface := rfl
    simp only [h.a.ev hx, e2, Sem.run_bind, hg, Result.andThen_ok, binOp, he, Sem.run_pure]
    rfl⟩
end
end Go.Sx
namespace Go.Sx
section
variable {cx : Cx} {o : Oper} {st : St}
theorem V_loadWO {t : TypeId} {x : Operand} {d : TypeDesc} {b sz : Nat} {l : List Value} {T : TypeId} {fz : Nat × Nat} (ho : o.op = .load t x) (hx : ev st.env x = some (.pointer (some ⟨b, 0, none⟩))) (hu : cx.P.underlying t = some d) (hs : scalarB d = false)
    (hb : ∀ w, OkW cx st.mem st.facts w → w.heap[b]? = some (.cells l.toArray T fz)) (hz : (cx.P.info? t).map (·.size) = some sz) (hl : l.length = sz) : V cx o st (.agg l.toArray) :=
  V_loadN ho hx hu hs (by rw [hl]; exact hz) fun w hw j v hv => by
    rw [Nat.zero_add]
    exact cell_of (hb w hw) (by simpa using hv)
end
end Go.Sx

/- More rules: a call that turns some blocks of one's own, whose number and content may change. -/
set_option linter.unusedVariables false
set_option linter.unusedSimpArgs false
namespace Go.Sx
def MemAt (w : World) (m : Mem) : Prop := (∀ b o, (b, o) ∈ m → w.heap[b]? = some o) ∧ (m.map (·.1)).Nodup
/-- What such a call comes to. -/
def RefP {Z : Type} (w : World) (m : Mem) (Ms : Z → Mem) (C : Z → Prop) (val : Value) : Ending → World → Prop := fun e w' =>
  ∃ z, C z ∧ e = .returned val ∧ Fr (m.map (·.1)) w w' ∧ MemAt w' (Ms z) ∧ ∀ k ∈ (Ms z).map (·.1), k ∈ m.map (·.1) ∨ w.heap.size ≤ k
section
variable {cx : Cx} {ops : Array Oper} {K : St → Prop} {o : Oper} {rest : List Oper} {st : St}
theorem OkW.memAt {m m' : Mem} {fs : List Fact} {w : World} (h : OkW cx m fs w) (hs : List.Sublist m' m) : MemAt w m' :=
  ⟨fun b o hb => h.mem b o (hs.subset hb), (hs.map _).nodup h.dis⟩
theorem okMem {P : Program} {w : World} {nt : Nat} {m : Mem} {fs : List Fact} (hm : MemAt w m) (hf : ∀ f ∈ fs, f.p w ∧ ∀ k, f.fp k → k < w.heap.size ∧ k ∉ m.map (·.1)) : OkW { P := P, w0 := w, nt := nt, mods := m.map (·.1) } m fs w :=
  ⟨hm.1, hm.2, fun b hb => .inr hb, hf, Fr.refl _ _⟩
theorem OkW.ref {Z : Type} {m1 m : Mem} {fs : List Fact} {w w' : World} {Ms : Z → Mem} {z : Z} (h : OkW cx (m1 ++ m) fs w) (hfr : Fr (m.map (·.1)) w w') (hm : MemAt w' (Ms z)) (hk : ∀ k ∈ (Ms z).map (·.1), k ∈ m.map (·.1) ∨ w.heap.size ≤ k) : OkW cx (m1 ++ Ms z) fs w' := by
  have hd := h.dis
  rw [List.map_append, List.nodup_append] at hd
  refine h.step hfr (fun b hb => by rw [List.map_append]; exact List.mem_append_right _ hb) (fun b o hb => ?_) ?_ (fun f hf => .inl hf)
  · rcases List.mem_append.1 hb with h1 | h1
    · have hbm : b ∈ m1.map (·.1) := List.mem_map.2 ⟨_, h1, rfl⟩
      have h2 := h.mem b o (List.mem_append_left _ h1)
      refine ⟨(hfr.block b (Array.getElem?_eq_some_iff.1 h2).1 (fun hm2 => hd.2.2 b hbm b hm2 rfl)).trans h2, .inr ?_⟩
      rw [List.map_append]
      exact List.mem_append_left _ hbm
    · have hbm : b ∈ (Ms z).map (·.1) := List.mem_map.2 ⟨_, h1, rfl⟩
      refine ⟨hm.1 b o h1, ?_⟩
      rcases hk b hbm with h2 | h2
      · right
        rw [List.map_append]
        exact List.mem_append_right _ h2
      · exact .inl h2
  · rw [List.map_append, List.nodup_append]
    refine ⟨hd.1, hm.2, fun a ha b hb e => ?_⟩
    subst e
    rcases hk a hb with h2 | h2
    · exact hd.2.2 a ha a h2 rfl
    · have := h.lt (show a ∈ (m1 ++ m).map (·.1) by rw [List.map_append]; exact List.mem_append_left _ ha)
      omega
theorem S_callRef {Z : Type} {x : Operand} {args : Array Operand} {at_ : Array TypeId} {f : FuncId} {first cap : Array Value} {vs : List Value} {d : Nat} {m1 m : Mem} {Ms : Z → Mem} {C : Z → Prop} {val : Value} (ho : o.op = .call { callee := .value x, args := args, argTypes := at_ })
    (hd : o.dst = some d) (hlt : Nat.blt d cx.nt = true) (hx : ev st.env x = some (.func (.func f) first cap)) (hv : evs st.env args.toList = some vs) (hf : Txt cx.P f) (hm : st.mem = m1 ++ m)
    (hc : ∀ w, OkW cx (m1 ++ m) st.facts w → Calls cx.P f (first ++ vs.toArray ++ cap) w (RefP w m Ms C val))
    (h : ∀ z, C z → K { st with env := (d, val) :: st.env, mem := m1 ++ Ms z }) : S cx o K st :=
  S_callF ho hx hv hf fun w hw => by
    rw [hm] at hw
    refine (hc w hw).mono ?_
    rintro e w' ⟨z, hz, rfl, hfr, hM, hk⟩
    exact ⟨_, _, _, rfl, hw.ref hfr hM hk, by rw [hd]; exact ⟨hlt, h z hz⟩⟩
theorem L_callRef {Z : Type} {x : Operand} {args : Array Operand} {at_ : Array TypeId} {f : FuncId} {first cap : Array Value} {vs : List Value} {d : Nat} {m1 m : Mem} {Ms : Z → Mem} {C : Z → Prop} {val : Value} (hg : o.guard = none) (ho : o.op = .call { callee := .value x, args := args, argTypes := at_ })
    (hd : o.dst = some d) (hlt : Nat.blt d cx.nt = true) (hx : ev st.env x = some (.func (.func f) first cap)) (hv : evs st.env args.toList = some vs) (hf : Txt cx.P f) (hm : st.mem = m1 ++ m)
    (hc : ∀ w, OkW cx (m1 ++ m) st.facts w → Calls cx.P f (first ++ vs.toArray ++ cap) w (RefP w m Ms C val))
    (h : ∀ z, C z → L cx ops K rest { st with env := (d, val) :: st.env, mem := m1 ++ Ms z }) : L cx ops K (o :: rest) st :=
  L_cons hg (S_callRef ho hd hlt hx hv hf hm hc h)
theorem RefP.of {Z : Type} {m mem : Mem} {fs : List Fact} {w' : World} {Ms : Z → Mem} {C : Z → Prop} {val : Value} (z : Z) (hw : OkW cx mem fs w') (hm : cx.mods = m.map (·.1)) (hC : C z) (hs : List.Sublist (Ms z) mem) : RefP cx.w0 m Ms C val (.returned val) w' :=
  ⟨z, hC, rfl, hm ▸ hw.fr, hw.memAt hs, fun k hk => by
    rcases hw.may k ((hs.map _).subset hk) with h | h
    · exact .inr h
    · rw [hm] at h
      exact .inl h⟩
/-- The facts that a callee wants: what is known lies in none of these blocks. -/
theorem OkW.factsM {m1 m : Mem} {fs : List Fact} {w : World} (h : OkW cx (m1 ++ m) fs w) : ∀ f ∈ fs, f.p w ∧ ∀ k, f.fp k → k < w.heap.size ∧ k ∉ m.map (·.1) := fun f hf =>
  ⟨(h.facts f hf).1, fun k hk => ⟨((h.facts f hf).2 k hk).1, fun hm => ((h.facts f hf).2 k hk).2 (by rw [List.map_append]; exact List.mem_append_right _ hm)⟩⟩
theorem OkW.memM {m1 m : Mem} {fs : List Fact} {w : World} (h : OkW cx (m1 ++ m) fs w) : MemAt w m := h.memAt (List.sublist_append_right _ _)
end
end Go.Sx

/- More rules: what reads of a reader, and throws if it can't. -/
set_option linter.unusedVariables false
set_option linter.unusedSimpArgs false
namespace Go.Sx
/-- A call that reads of the reader in block rb: what it hands back, and what is known of it; or it throws. -/
def InP {α : Type} (RD S : TypeId) (w : World) (rb : Nat) (u0 : Value) (l0 : List Int) (o : Option (α × List Int)) (V : α → Value → List Fact → Prop) : Ending → World → Prop := fun e w' => Fr [rb] w w' ∧ match o with
  | some (x, l') => ∃ v fs a n c, e = .returned v ∧ V x v fs ∧ (∀ f ∈ fs, f.p w' ∧ ∀ k, f.fp k → w.heap.size ≤ k ∧ k < w'.heap.size) ∧ w'.heap[rb]? = some (row RD [.slice a n c]) ∧ n ≤ c ∧ ∀ W, SlB W u0 l0 → SlB W (.slice a n c) l'
  | none => e = .panicked [stp S 60]
theorem InP.no {α : Type} {RD S : TypeId} {w w' : World} {rb : Nat} {u0 : Value} {l0 : List Int} {o : Option (α × List Int)} {V : α → Value → List Fact → Prop} (ho : o = none) (hfr : Fr [rb] w w') : InP RD S w rb u0 l0 o V (.panicked [stp S 60]) w' := by
  subst ho
  exact ⟨hfr, rfl⟩
theorem InP.yes {α : Type} {RD S : TypeId} {w w' : World} {rb : Nat} {u0 : Value} {l0 : List Int} {o : Option (α × List Int)} {V : α → Value → List Fact → Prop} {x : α} {l' : List Int} {v : Value} {fs : List Fact} {a : Option Addr} {n c : Nat} (ho : o = some (x, l')) (hfr : Fr [rb] w w') (hV : V x v fs)
    (hfs : ∀ f ∈ fs, f.p w' ∧ ∀ k, f.fp k → w.heap.size ≤ k ∧ k < w'.heap.size) (hb : w'.heap[rb]? = some (row RD [.slice a n c])) (hc : n ≤ c) (hs : ∀ W, SlB W u0 l0 → SlB W (.slice a n c) l') : InP RD S w rb u0 l0 o V (.returned v) w' := by
  subst ho
  exact ⟨hfr, v, fs, a, n, c, rfl, hV, hfs, hb, hc, hs⟩
section
variable {cx : Cx} {ops : Array Oper} {Kx : Exit → St → Prop} {o : Oper} {rest : List Oper} {st : St}
theorem OkW.addFacts {m : Mem} {fs fs2 : List Fact} {w w' : World} {i b : Nat} {p p' : Obj} (h : OkW cx m fs w) (hi : m[i]? = some (b, p)) (hfr : Fr [b] w w') (hb : w'.heap[b]? = some p') (hf : ∀ f ∈ fs2, f.p w' ∧ ∀ k, f.fp k → w.heap.size ≤ k ∧ k < w'.heap.size) : OkW cx (m.set i (b, p')) (fs ++ fs2) w' := by
  have h1 := h.set hi hfr hb
  have hk : (m.set i (b, p')).map (·.1) = m.map (·.1) := nodup_set hi
  refine ⟨h1.mem, h1.dis, h1.may, fun f hf2 => ?_, h1.fr⟩
  rcases List.mem_append.1 hf2 with h2 | h2
  · exact h1.facts f h2
  · refine ⟨(hf f h2).1, fun k hk2 => ⟨((hf f h2).2 k hk2).2, fun hm => ?_⟩⟩
    rw [hk] at hm
    have := h.lt hm
    have := ((hf f h2).2 k hk2).1
    omega
theorem LP_in {α : Type} {x : Operand} {args : Array Operand} {at_ : Array TypeId} {f : FuncId} {first cap : Array Value} {vs : List Value} {d rb : Nat} {RD S : TypeId} {u0 : Value} {l0 : List Int} {r : Option (α × List Int)} {V : α → Value → List Fact → Prop} {p : Obj} (i : Nat) (hg : o.guard = none) (ho : o.op = .call { callee := .value x, args := args, argTypes := at_ })
    (hd : o.dst = some d) (hlt : Nat.blt d cx.nt = true) (hx : ev st.env x = some (.func (.func f) first cap)) (hv : evs st.env args.toList = some vs) (hf : Txt cx.P f) (hi : st.mem[i]? = some (rb, p))
    (hc : ∀ w, OkW cx st.mem st.facts w → Calls cx.P f (first ++ vs.toArray ++ cap) w (InP RD S w rb u0 l0 r V))
    (hno : r = none → Kx (.panic [stp S 60]) { st with mem := [], facts := [] })
    (hyes : ∀ x l' v fs a n c, r = some (x, l') → V x v fs → n ≤ c → (∀ W, SlB W u0 l0 → SlB W (.slice a n c) l') → (∀ f ∈ fs, ∀ k, f.fp k → cx.w0.heap.size ≤ k) → LP cx ops Kx rest { st with env := (d, v) :: st.env, mem := st.mem.set i (rb, row RD [.slice a n c]), facts := st.facts ++ fs }) : LP cx ops Kx (o :: rest) st := by
  refine LP_call hg ho hx hv hf fun w hw => (hc w hw).mono ?_
  rintro e w' ⟨hfr, hR⟩
  have hbm : rb ∈ st.mem.map (·.1) := List.mem_map.2 ⟨_, List.mem_of_getElem? hi, rfl⟩
  cases r with
  | none =>
    simp only at hR
    subst hR
    exact .inr ⟨_, [], [], rfl, hw.step hfr (by simpa using hbm) (by simp) (by simp) (by simp), hno rfl⟩
  | some q =>
    obtain ⟨x, l'⟩ := q
    obtain ⟨v, fs, a, n, c, rfl, hV, hfs, hb, hnc, hs⟩ := hR
    refine .inl ⟨_, _, _, rfl, hw.addFacts hi hfr hb hfs, ?_⟩
    rw [hd]
    exact ⟨hlt, hyes x l' v fs a n c rfl hV hnc hs (fun f hf k hk => Nat.le_trans hw.fr.size ((hfs f hf).2 k hk).1)⟩
theorem fxIn {cx : Cx} {m : Mem} {f0 f1 : Fact} {fs : List Fact} {w : World} {rb : Nat} {p : Obj} (h : OkW cx m (f0 :: f1 :: fs) w) (h0 : m[0]? = some (rb, p)) : ∀ f ∈ [f0, f1], f.p w ∧ ∀ k, f.fp k → k < w.heap.size ∧ k ≠ rb := fun f hf => by
  have hf' : f ∈ f0 :: f1 :: fs := by
    simp only [List.mem_cons, List.not_mem_nil, or_false] at hf ⊢
    rcases hf with h | h
    · exact .inl h
    · exact .inr (.inl h)
  exact ⟨(h.facts f hf').1, fun k hk => ⟨((h.facts f hf').2 k hk).1, fun e => ((h.facts f hf').2 k hk).2 (by subst e; exact List.mem_map.2 ⟨_, List.mem_of_getElem? h0, rfl⟩)⟩⟩
theorem src_C {sz : Nat} {P : Program} {w : World} {tx e' : TypeId} {x : Value} {n : Nat} {cs : List Value} (hk : P.underlying tx = some (.slice e')) (h : SlC sz w x n cs) (h1 : ∀ u ∈ cs, u.oneCell' = true) : Src P sz tx x n cs w := by
  rcases h with ⟨rfl, rfl, a, c, rfl⟩ | ⟨b, off, c, rfl, hl, h⟩
  · cases a with
    | none => exact Src.ofNil w hk c
    | some a => exact Src.ofSlice w hk a 0 c [] (by simp) (fun j u hj => by simp at hj) (fun u hu => by simp at hu)
  · exact Src.ofSlice w hk _ _ c cs hl (fun j u hj => by rw [add_at]; exact h j u hj) h1
/-- A row of one's own, as what a reader hands back. -/
theorem own_fact {cx : Cx} {m : Mem} {fs : List Fact} {w : World} {rb sz n : Nat} {p : Obj} {q : OwnR} {ks : List Value} {T : TypeId} (h : OkW cx ((rb, p) :: m) fs w) (hm : cx.mods = [rb]) (hs : ∀ x ∈ ownM T q ks, x ∈ m) (hq : OwnC sz q n ks) :
    (factC sz (ownV q n) n ks).p w ∧ ∀ k, (factC sz (ownV q n) n ks).fp k → cx.w0.heap.size ≤ k ∧ k < w.heap.size := by
  refine ⟨SlC.ofM h (fun x hx => List.mem_cons_of_mem _ (hs x hx)) hq, ?_⟩
  rintro k ⟨hne, off, n', c, e⟩
  cases q with
  | none => exact absurd hq.2 hne
  | some q =>
    obtain ⟨g, c0, r⟩ := q
    simp only [ownV, oA, oC, Value.slice.injEq, Option.some.injEq, Addr.mk.injEq] at e
    obtain ⟨⟨rfl, _⟩, _⟩ := e
    have hp := hs (g, row T (ks ++ r)) (by simp [ownM])
    have hk : g ∈ ((rb, p) :: m).map (·.1) := List.mem_cons_of_mem _ (List.mem_map.2 ⟨_, hp, rfl⟩)
    refine ⟨?_, h.lt hk⟩
    rcases h.may g hk with h1 | h1
    · exact h1
    · rw [hm, List.mem_singleton] at h1
      subst h1
      have hd := h.dis
      rw [List.map_cons, List.nodup_cons] at hd
      exact absurd (List.mem_map.2 ⟨_, hp, rfl⟩) hd.1
end
end Go.Sx

/- More rules: a row of one's own becomes a fact. -/
set_option linter.unusedVariables false
set_option linter.unusedSimpArgs false
namespace Go.Sx
section
variable {cx : Cx} {Kx : Exit → St → Prop} {st : St}
theorem OkW.toFactC {m : Mem} {fs : List Fact} {w : World} {q : OwnR} {U : TypeId} {sz n : Nat} {ks : List Value} (h : OkW cx (m ++ ownM U q ks) fs w) (hq : OwnC sz q n ks) : OkW cx m (fs ++ [factC sz (ownV q n) n ks]) w := by
  have h1 := h.sub (List.sublist_append_left _ _) (fun f hf => hf)
  refine ⟨h1.mem, h1.dis, h1.may, fun f hf => ?_, h1.fr⟩
  rcases List.mem_append.1 hf with hf | hf
  · exact h1.facts f hf
  · obtain rfl := List.mem_singleton.1 hf
    have hs : SlC sz w (ownV q n) n ks := SlC.ofM h (fun p hp => List.mem_append_right _ hp) hq
    refine ⟨hs, fun k hk => ⟨factC_lt hs k hk, ?_⟩⟩
    obtain ⟨hne, off, n', c', e⟩ := hk
    cases q with
    | none => exact absurd hq.2 hne
    | some q =>
      obtain ⟨g, c0, r⟩ := q
      simp only [ownV, oA, oC, Value.slice.injEq, Option.some.injEq, Addr.mk.injEq] at e
      obtain ⟨⟨rfl, _⟩, _⟩ := e
      have := h.dis
      rw [List.map_append, List.nodup_append] at this
      intro hm
      exact this.2.2 _ hm _ (by simp [ownM]) rfl
theorem own_fp {m : Mem} {fs : List Fact} {w : World} {q : OwnR} {U : TypeId} {sz n : Nat} {ks : List Value} (h : OkW cx m fs w) (hm : ∀ p ∈ ownM U q ks, p ∈ m) (hq : OwnC sz q n ks) : ∀ k, (factC sz (ownV q n) n ks).fp k → cx.w0.heap.size ≤ k ∨ k ∈ cx.mods := by
  rintro k ⟨hne, off, n', c', e⟩
  cases q with
  | none => exact absurd hq.2 hne
  | some q =>
    obtain ⟨g, c0, r⟩ := q
    simp only [ownV, oA, oC, Value.slice.injEq, Option.some.injEq, Addr.mk.injEq] at e
    obtain ⟨⟨rfl, _⟩, _⟩ := e
    exact h.may _ (List.mem_map.2 ⟨_, hm (g, row U (ks ++ r)) (by simp [ownM]), rfl⟩)
theorem J_toFactC {c : Code} (m : Mem) {q : OwnR} {U : TypeId} {sz n : Nat} {ks : List Value} (hm : st.mem = m ++ ownM U q ks) (hq : OwnC sz q n ks) (h : (∀ k, (factC sz (ownV q n) n ks).fp k → cx.w0.heap.size ≤ k ∨ k ∈ cx.mods) → J cx c Kx { st with mem := m, facts := st.facts ++ [factC sz (ownV q n) n ks] }) : J cx c Kx st := by
  intro a w ho
  have hw := ho.w
  rw [hm] at hw
  exact h (own_fp hw (fun p hp => List.mem_append_right _ hp) hq) a w ⟨ho.a, hw.toFactC hq⟩
theorem J_toFactD {c : Code} (m : Mem) {q : OwnR} {U : TypeId} {sz n : Nat} {ks : List Value} (hm : st.mem = m ++ ownM U q ks) (hq : OwnC sz q n ks) (h : (∀ k, (factC sz (ownV q n) n ks).fp k → (cx.w0.heap.size ≤ k ∨ k ∈ cx.mods) ∧ k ∉ m.map (·.1)) → J cx c Kx { st with mem := m, facts := st.facts ++ [factC sz (ownV q n) n ks] }) : J cx c Kx st := by
  intro a w ho
  have hw := ho.w
  rw [hm] at hw
  have h2 := hw.toFactC hq
  exact h (fun k hk => ⟨own_fp hw (fun p hp => List.mem_append_right _ hp) hq k hk, ((h2.facts _ (List.mem_append_right _ (List.mem_singleton.2 rfl))).2 k hk).2⟩) a w ⟨ho.a, h2⟩
theorem own_fact0 {m : Mem} {fs : List Fact} {w : World} {sz n : Nat} {q : OwnR} {ks : List Value} {T : TypeId} (h : OkW cx m fs w) (hm : cx.mods = []) (hs : ∀ x ∈ ownM T q ks, x ∈ m) (hq : OwnC sz q n ks) :
    (factC sz (ownV q n) n ks).p w ∧ ∀ k, (factC sz (ownV q n) n ks).fp k → cx.w0.heap.size ≤ k ∧ k < w.heap.size := by
  have h1 : SlC sz w (ownV q n) n ks := SlC.ofM h hs hq
  refine ⟨h1, fun k hk => ⟨?_, factC_lt h1 k hk⟩⟩
  rcases own_fp h hs hq k hk with h2 | h2
  · exact h2
  · rw [hm] at h2; cases h2
/-- What was handed out as a row with room behind it is one's own from now on. -/
theorem J_toOwn {c : Code} {v : Value} {l : List Int} (fs' : List Fact) (hm : factR v l ∈ st.facts) (hne : l ≠ []) (hfresh : ∀ k, (factB v l).fp k → cx.w0.heap.size ≤ k) (hsub : ∀ f ∈ fs', f ∈ st.facts) (hold : ∀ f ∈ fs', ∀ k, f.fp k → k < cx.w0.heap.size)
    (h : ∀ g c' r, v = .slice (some ⟨g, 0, none⟩) l.length c' → r.length = c' - l.length → l.length ≤ c' → J cx c Kx { st with mem := st.mem ++ [(g, row 5 (dg l ++ r))], facts := fs' }) : J cx c Kx st := by
  intro a w ho
  obtain ⟨hp, hfp⟩ := ho.w.facts _ hm
  rcases hp with ⟨h0, _⟩ | ⟨_, g, c', r, rfl, hg, hr, hc⟩
  · exact absurd h0 hne
  · have hgf : (factB (.slice (some ⟨g, 0, none⟩) l.length c') l).fp g := ⟨hne, _, _, _, rfl⟩
    have hgm := (hfp g hgf).2
    have hg0 := hfresh g hgf
    refine h g c' r rfl hr hc a w ⟨ho.a, ?_⟩
    refine ⟨fun b o hb => ?_, ?_, fun b hb => ?_, fun f hf => ⟨(ho.w.facts f (hsub f hf)).1, fun k hk => ⟨((ho.w.facts f (hsub f hf)).2 k hk).1, fun hkm => ?_⟩⟩, ho.w.fr⟩
    · rcases List.mem_append.1 hb with hb | hb
      · exact ho.w.mem b o hb
      · simp only [List.mem_singleton, Prod.mk.injEq] at hb
        obtain ⟨rfl, rfl⟩ := hb
        exact hg
    · rw [List.map_append, List.nodup_append]
      refine ⟨ho.w.dis, by simp, fun x hx y hy => ?_⟩
      simp only [List.map_cons, List.map_nil, List.mem_singleton] at hy
      subst hy
      exact fun e => hgm (e ▸ hx)
    · rw [List.map_append] at hb
      rcases List.mem_append.1 hb with hb | hb
      · exact ho.w.may b hb
      · simp only [List.map_cons, List.map_nil, List.mem_singleton] at hb
        subst hb
        exact .inl hg0
    · rw [List.map_append] at hkm
      rcases List.mem_append.1 hkm with hb | hb
      · exact ((ho.w.facts f (hsub f hf)).2 k hk).2 hb
      · simp only [List.map_cons, List.map_nil, List.mem_singleton] at hb
        subst hb
        have := hold f hf k hk
        omega
end
end Go.Sx

/- More rules: a chain of tests joined by && or ||, stepped through once: the answer is the tests' && or ||. -/
set_option linter.unusedVariables false
set_option linter.unusedSimpArgs false
namespace Go.Sx
section
variable {cx : Cx} {ops : Array Oper} {K : St → Prop} {o : Oper} {rest : List Oper} {st : St}
def Ext (e e' : Env) : Prop := ∀ k v, get e k = some v → get e' k = some v
theorem OkA.ext {e e' : Env} {ds : List Deferred} {a : Act} (h : OkA cx e' ds a) (hx : Ext e e') : OkA cx e ds a := ⟨fun k v hk => h.env k v (hx k v hk), h.size, h.ds⟩
theorem Ext.refl (e : Env) : Ext e e := fun _ _ h => h
theorem Ext.fresh {e : Env} {t : Nat} {v : Value} (h : (get e t).isNone = true) : Ext e ((t, v) :: e) := by
  intro k u hk
  unfold get
  split
  · rename_i he
    have : t = k := Nat.eq_of_beq_eq_true he
    subst this
    rw [hk] at h
    cases h
  · exact hk
theorem Ext.trans {a b c : Env} (h : Ext a b) (k : Ext b c) : Ext a c := fun i v hi => k i v (h i v hi)
theorem Ext.cons {a b : Env} (h : Ext a b) (t : Nat) (v : Value) : Ext ((t, v) :: a) ((t, v) :: b) := by
  intro k u hk
  unfold get at hk ⊢
  split
  · rename_i he
    rw [he] at hk
    exact hk
  · rename_i he
    rw [he] at hk
    exact h k u hk
/-- The first n pairs are new. -/
theorem ext_drop (n : Nat) {e : Env} (h : ((e.take n).all fun p => (get (e.drop n) p.1).isNone) = true) : Ext (e.drop n) e := by
  have key : ∀ a b : Env, (a.all fun p => (get b p.1).isNone) = true → Ext b (a ++ b) := by
    intro a b
    induction a with
    | nil => intro _; exact Ext.refl _
    | cons p a ih =>
      intro h
      rw [List.all_cons, Bool.and_eq_true] at h
      intro k u hk
      show get ((p.1, p.2) :: (a ++ b)) k = some u
      unfold get
      split
      · rename_i he
        have : p.1 = k := Nat.eq_of_beq_eq_true he
        have h1 := h.1
        rw [this, hk] at h1
        cases h1
      · exact ih h.2 k u hk
  have := key (e.take n) (e.drop n) h
  rwa [List.take_append_drop] at this
theorem ext_cut (n : Nat) {e e' : Env} (hd : e'.drop n = e) (h : ((e'.take n).all fun p => (get e p.1).isNone) = true) : Ext e e' := by
  subst hd
  exact ext_drop n h
/-- All of these are guarded by one slot, and lay what was not there. -/
def segB (nt s : Nat) (want : Bool) (ops : Array Oper) (env : Env) : List Oper → Bool
  | [] => true
  | o :: r => (match o.guard with
      | some (j, b) => b == want && (match (ops[j]?).bind (·.dst) with | some d => Nat.beq d s | none => false)
      | none => false) && (match o.dst with | some t => Nat.blt t nt && (get env t).isNone | none => false) && segB nt s want ops env r
theorem segB_cons {nt s : Nat} {want : Bool} {env : Env} {o : Oper} {r : List Oper} (h : segB nt s want ops env (o :: r) = true) :
    (∃ j, o.guard = some (j, want) ∧ (ops[j]?).bind (·.dst) = some s) ∧ (∃ t, o.dst = some t ∧ Nat.blt t nt = true ∧ (get env t).isNone = true) ∧ segB nt s want ops env r = true := by
  unfold segB at h
  rw [Bool.and_eq_true, Bool.and_eq_true] at h
  obtain ⟨⟨h1, h2⟩, h3⟩ := h
  refine ⟨?_, ?_, h3⟩
  · split at h1
    · rename_i j b hg
      rw [Bool.and_eq_true] at h1
      obtain ⟨hb, hd⟩ := h1
      have hb : b = want := by simpa using hb
      subst hb
      split at hd
      · rename_i d hd'
        have : d = s := Nat.eq_of_beq_eq_true hd
        subst this
        exact ⟨j, hg, hd'⟩
      · cases hd
    · cases h1
  · split at h2
    · rename_i t ht
      rw [Bool.and_eq_true] at h2
      exact ⟨t, ht, h2.1, h2.2⟩
    · cases h2
theorem L_skips {s : Nat} {want : Bool} {v : Value} (hs : get st.env s = some v) (hv : isB want v = false) (hlt : Nat.blt s cx.nt = true) {l2 : List Oper} (h2 : L cx ops K l2 st) :
    ∀ l1 : List Oper, segB cx.nt s want ops st.env l1 = true → L cx ops K (l1 ++ l2) st
  | [], _ => h2
  | o :: r, h => by
    obtain ⟨⟨j, hg, hj⟩, ⟨t, ht, htl, hf⟩, h3⟩ := segB_cons h
    refine L_skip hg hj hlt hs hv ht htl ?_
    intro Q a w ho hk
    exact L_skips hs hv hlt h2 r h3 Q a w ⟨ho.a.ext (Ext.fresh hf), ho.w⟩ hk
theorem LQ_skips {s : Nat} {want : Bool} {v : Value} (hs : get st.env s = some v) (hv : isB want v = false) (hlt : Nat.blt s cx.nt = true) {l2 : List Oper} (h2 : LQ cx ops K l2 st) :
    ∀ l1 : List Oper, segB cx.nt s want ops st.env l1 = true → LQ cx ops K (l1 ++ l2) st
  | [], _ => h2
  | o :: r, h => by
    obtain ⟨⟨j, hg, hj⟩, ⟨t, ht, htl, hf⟩, h3⟩ := segB_cons h
    refine LQ_skip hg hj hlt hs hv ht htl ?_
    intro Kf a ho hk
    exact LQ_skips hs hv hlt h2 r h3 Kf a (ho.ext (Ext.fresh hf)) (fun e' a' h1 h2 => hk e' a' h1 h2)
/-- What a test that was carried out leaves. -/
structure Left (st : St) (s : Nat) (b : Bool) (y : Operand) (q : Bool) (s' : St) : Prop where
  y : ev s'.env y = some (.bool q)
  mem : s'.mem = st.mem
  facts : s'.facts = st.facts
  ds : s'.ds = st.ds
  env : Ext ((s, .bool b) :: st.env) s'.env
theorem cut_list {l : List Oper} {n : Nat} {p : Oper} (hp : l[n]? = some p) : l = l.take n ++ p :: l.drop (n + 1) := by
  have hn := (List.getElem?_eq_some_iff.1 hp).1
  have e := (List.getElem?_eq_some_iff.1 hp).2
  rw [← e, ← List.drop_eq_getElem_cons hn, List.take_append_drop]
theorem Left.ext {s : Nat} {b : Bool} {y : Operand} {q : Bool} {s' : St} (h : Left st s b y q s') (hs : get st.env s = some (.bool b)) : Ext st.env s'.env := by
  refine Ext.trans ?_ h.env
  intro k u hk
  unfold get
  split
  · rename_i he
    have : s = k := Nat.eq_of_beq_eq_true he
    subst this
    rw [hs] at hk
    exact hk
  · exact hk
theorem L_and (n s tp : Nat) {b q : Bool} {p : Oper} {y : Operand} {l : List Oper} (hs : get st.env s = some (.bool b)) (hlt : Nat.blt s cx.nt = true) (hp : l[n]? = some p) (hg : p.guard = none) (ho : p.op = .pick (.tmp s) y (.const (.bool false)))
    (hd : p.dst = some tp) (htp : Nat.blt tp cx.nt = true) (hseg : segB cx.nt s true ops st.env (l.take n) = true)
    (h1 : b = true → ∀ rest K', (∀ s', Left st s true y q s' → L cx ops K' rest s') → L cx ops K' (l.take n ++ rest) (st.put s (.bool true)))
    (h2 : L cx ops K (l.drop (n + 1)) (st.put tp (.bool (b && q)))) : L cx ops K l st := by
  rw [cut_list hp]
  cases b with
  | false =>
    refine L_skips hs rfl hlt ?_ _ hseg
    exact L_v hg hd htp (V_pickF ho hs rfl) h2
  | true =>
    have h3 := h1 rfl (p :: l.drop (n + 1)) K (fun s' hl => by
      have hs' : get s'.env s = some (.bool true) := hl.ext hs _ _ hs
      refine L_v hg hd htp (V_pickT ho hs' hl.y) ?_
      intro Q a w hok hk
      obtain ⟨ha, hw⟩ := hok
      refine h2 Q a w ⟨?_, ?_⟩ hk
      · have : OkA cx ((tp, .bool q) :: st.env) s'.ds a := ha.ext ((hl.ext hs).cons _ _)
        rw [hl.ds] at this
        exact this
      · have hw' : OkW cx s'.mem s'.facts w := hw
        rw [hl.mem, hl.facts] at hw'
        exact hw')
    intro Q a w hok hk
    exact h3 Q a w ⟨put_same hok.a hs, hok.w⟩ hk
theorem L_or (n s tp : Nat) {b q : Bool} {p : Oper} {y : Operand} {l : List Oper} (hs : get st.env s = some (.bool b)) (hlt : Nat.blt s cx.nt = true) (hp : l[n]? = some p) (hg : p.guard = none) (ho : p.op = .pick (.tmp s) (.const (.bool true)) y)
    (hd : p.dst = some tp) (htp : Nat.blt tp cx.nt = true) (hseg : segB cx.nt s false ops st.env (l.take n) = true)
    (h1 : b = false → ∀ rest K', (∀ s', Left st s false y q s' → L cx ops K' rest s') → L cx ops K' (l.take n ++ rest) (st.put s (.bool false)))
    (h2 : L cx ops K (l.drop (n + 1)) (st.put tp (.bool (b || q)))) : L cx ops K l st := by
  rw [cut_list hp]
  cases b with
  | true =>
    refine L_skips hs rfl hlt ?_ _ hseg
    exact L_v hg hd htp (V_pickT ho hs rfl) h2
  | false =>
    have h3 := h1 rfl (p :: l.drop (n + 1)) K (fun s' hl => by
      have hs' : get s'.env s = some (.bool false) := hl.ext hs _ _ hs
      refine L_v hg hd htp (V_pickF ho hs' hl.y) ?_
      intro Q a w hok hk
      obtain ⟨ha, hw⟩ := hok
      refine h2 Q a w ⟨?_, ?_⟩ hk
      · have : OkA cx ((tp, .bool q) :: st.env) s'.ds a := ha.ext ((hl.ext hs).cons _ _)
        rw [hl.ds] at this
        exact this
      · have hw' : OkW cx s'.mem s'.facts w := hw
        rw [hl.mem, hl.facts] at hw'
        exact hw')
    intro Q a w hok hk
    exact h3 Q a w ⟨put_same hok.a hs, hok.w⟩ hk
/-- The same, where the order is open and all is quiet. -/
structure LeftQ (st : St) (s : Nat) (b : Bool) (y : Operand) (q : Bool) (s' : St) : Prop where
  y : ev s'.env y = some (.bool q)
  rest : s' = { st with env := s'.env }
  env : Ext ((s, .bool b) :: st.env) s'.env
theorem LeftQ.ext {s : Nat} {b : Bool} {y : Operand} {q : Bool} {s' : St} (h : LeftQ st s b y q s') (hs : get st.env s = some (.bool b)) : Ext st.env s'.env := by
  refine Ext.trans ?_ h.env
  intro k u hk
  unfold get
  split
  · rename_i he
    have : s = k := Nat.eq_of_beq_eq_true he
    subst this
    rw [hs] at hk
    exact hk
  · exact hk
theorem LQ_ext {l : List Oper} {e : Env} (h : LQ cx ops K l st) (he : Ext st.env e) : LQ cx ops K l { st with env := e } :=
  fun Kf a ha hk => h Kf a (ha.ext he) hk
theorem LQ_and (n s tp : Nat) {b q : Bool} {p : Oper} {y : Operand} {l : List Oper} (hs : get st.env s = some (.bool b)) (hlt : Nat.blt s cx.nt = true) (hp : l[n]? = some p) (hg : p.guard = none) (ho : p.op = .pick (.tmp s) y (.const (.bool false)))
    (hd : p.dst = some tp) (htp : Nat.blt tp cx.nt = true) (hseg : segB cx.nt s true ops st.env (l.take n) = true)
    (h1 : b = true → ∀ rest K', (∀ s', LeftQ st s true y q s' → LQ cx ops K' rest s') → LQ cx ops K' (l.take n ++ rest) (st.put s (.bool true)))
    (h2 : LQ cx ops K (l.drop (n + 1)) (st.put tp (.bool (b && q)))) : LQ cx ops K l st := by
  rw [cut_list hp]
  cases b with
  | false =>
    refine LQ_skips hs rfl hlt ?_ _ hseg
    exact LQ_v hg hd htp (V_pickF ho hs rfl) h2
  | true =>
    have h3 := h1 rfl (p :: l.drop (n + 1)) K (fun s' hl => by
      have hs' : get s'.env s = some (.bool true) := hl.ext hs _ _ hs
      refine LQ_v hg hd htp (V_pickT ho hs' hl.y) ?_
      have h4 := LQ_ext h2 ((hl.ext hs).cons tp (.bool q))
      have e : (s'.put tp (.bool q)) = { (st.put tp (.bool q)) with env := (tp, .bool q) :: s'.env } := by rw [hl.rest]; rfl
      rw [e]
      exact h4)
    exact fun Kf a ha hk => h3 Kf a (put_same ha hs) (fun e' a' h4 h5 => hk e' a' h4 h5)
theorem LQ_or (n s tp : Nat) {b q : Bool} {p : Oper} {y : Operand} {l : List Oper} (hs : get st.env s = some (.bool b)) (hlt : Nat.blt s cx.nt = true) (hp : l[n]? = some p) (hg : p.guard = none) (ho : p.op = .pick (.tmp s) (.const (.bool true)) y)
    (hd : p.dst = some tp) (htp : Nat.blt tp cx.nt = true) (hseg : segB cx.nt s false ops st.env (l.take n) = true)
    (h1 : b = false → ∀ rest K', (∀ s', LeftQ st s false y q s' → LQ cx ops K' rest s') → LQ cx ops K' (l.take n ++ rest) (st.put s (.bool false)))
    (h2 : LQ cx ops K (l.drop (n + 1)) (st.put tp (.bool (b || q)))) : LQ cx ops K l st := by
  rw [cut_list hp]
  cases b with
  | true =>
    refine LQ_skips hs rfl hlt ?_ _ hseg
    exact LQ_v hg hd htp (V_pickT ho hs rfl) h2
  | false =>
    have h3 := h1 rfl (p :: l.drop (n + 1)) K (fun s' hl => by
      have hs' : get s'.env s = some (.bool false) := hl.ext hs _ _ hs
      refine LQ_v hg hd htp (V_pickF ho hs' hl.y) ?_
      have h4 := LQ_ext h2 ((hl.ext hs).cons tp (.bool q))
      have e : (s'.put tp (.bool q)) = { (st.put tp (.bool q)) with env := (tp, .bool q) :: s'.env } := by rw [hl.rest]; rfl
      rw [e]
      exact h4)
    exact fun Kf a ha hk => h3 Kf a (put_same ha hs) (fun e' a' h4 h5 => hk e' a' h4 h5)
theorem S_alloc {t : TypeId} {d : Nat} {z : Value} (ho : o.op = .alloc t) (hd : o.dst = some d) (hlt : Nat.blt d cx.nt = true) (hz : (cx.P.info? t).bind (·.zero) = some z)
    (h : ∀ b, K { st with env := (d, .pointer (some ⟨b, 0, none⟩)) :: st.env, mem := st.mem ++ [(b, .cells z.cells t)] }) : S cx o K st := by
  intro Q next a w hok hk
  have hr : (execOp a.eval o).run cx.P w = .ok (.value (.pointer (some ⟨w.heap.size, 0, none⟩))) (w.alloc (.cells z.cells t)) := by
    unfold execOp; rw [ho]
    cases hq : cx.P.info? t with
    | none => simp [hq] at hz
    | some i =>
      have hz' : i.zero = some z := by simpa [hq] using hz
      simp [Instr.alloc, zeroValue, typeInfo, hq, hz', newVar, newRow]
  exact wpIn_value (nd ho (fun c h => by cases h)) hr (by rw [hd]; exact hk _ _ _ ⟨hok.a.put hlt _, hok.w.alloc _⟩ (h _))
theorem LO_both {m0 : Mem} {f0 : List Fact} {k1 k2 : Nat} {r1 r2 : Ord} (h1 : LO cx m0 f0 ops K (.one k1 r1) st) (h2 : LO cx m0 f0 ops K (.one k2 r2) st) : LO cx m0 f0 ops K (.two k1 r1 k2 r2) st := fun a w ho => ⟨h1 a w ho, h2 a w ho⟩
theorem LO_three {m0 : Mem} {f0 : List Fact} {k1 k2 k3 : Nat} {r1 r2 r3 : Ord} (h1 : LO cx m0 f0 ops K (.one k1 r1) st) (h2 : LO cx m0 f0 ops K (.one k2 r2) st) (h3 : LO cx m0 f0 ops K (.one k3 r3) st) : LO cx m0 f0 ops K (.three k1 r1 k2 r2 k3 r3) st := fun a w ho => ⟨h1 a w ho, h2 a w ho, h3 a w ho⟩
/-- What is known behind a part, told once: the ways in are many. -/
theorem J_mid {Kx : Exit → St → Prop} {c y : Code} {X : Type} (s : X → St) (h1 : J cx c (Exit.thenS (fun st' => ∃ b, Le (s b) st') Kx) st) (h2 : ∀ b, J cx y Kx (s b)) : J cx c (Exit.thenS (J cx y Kx) Kx) st :=
  h1.mono fun e s' h => by
    cases e with
    | normal => obtain ⟨b, hb⟩ := h; exact J_le hb (h2 b)
    | exit id => exact h
    | goto l => exact h
    | ret => exact h
    | panic c => exact h
    | outgrown => exact h
/-- A struct's parts, evaluated. -/
def evp (e : Env) : List (Nat × Operand) → Option (List (Nat × Value))
  | [] => some []
  | (i, x) :: r => match ev e x, evp e r with
    | some v, some vs => some ((i, v) :: vs)
    | _, _ => none
theorem evp_map {e : Env} : ∀ {l : List (Nat × Operand)} {vs : List (Nat × Value)}, evp e l = some vs → l.map (fun p => (p.1, ev e p.2)) = vs.map (fun p => (p.1, some p.2))
  | [], vs, h => by injection h with h; subst h; rfl
  | (i, x) :: r, vs, h => by
    unfold evp at h
    split at h
    · rename_i v vs' h1 h2
      injection h with h
      subst h
      rw [List.map_cons, List.map_cons, evp_map h2, h1]
    · cases h
theorem V_buildE {t : TypeId} {parts : Array (Nat × Operand)} {vs : List (Nat × Value)} {v : Value} (ho : o.op = .build t parts) (hp : evp st.env parts.toList = some vs) (hr : ∀ w, (Instr.build t vs.toArray).run cx.P w = .ok v w) : V cx o st v :=
  V_build ho (evp_map hp) hr
theorem V_neg {t : TypeId} {x : Operand} {k : IntKind} {n r : Int} (ho : o.op = .unOp .neg t x) (hx : ev st.env x = some (.int k n)) (hr : k.wrap (-n) = r) : V cx o st (.int k r) :=
  ⟨nd ho (fun c h => by cases h), fun a w h => by
    subst hr
    unfold execOp; rw [ho]
    have e : (Op.unary .neg (.int k n)).run cx.P w = .ok (.int k (k.wrap (-n))) w := by
      rw [← Int.zero_sub]; rfl
    simp only [h.a.ev hx, Sem.run_bind, e, Result.andThen_ok, Sem.run_pure]⟩
end
end Go.Sx

/- Facts that go together; lists that are held against one another; rows of structs: no program in sight. -/
set_option linter.unusedVariables false
set_option linter.unusedSimpArgs false
namespace Go.Sx
/-- A fact that holds of what is there. -/
def FA (w : World) (f : Fact) : Prop := f.p w ∧ ∀ k, f.fp k → k < w.heap.size
def FW (w : World) (fs : List Fact) : Prop := ∀ f ∈ fs, FA w f
theorem FW.nil {w : World} : FW w [] := by intro f hf; cases hf
theorem FW.cons {w : World} {f : Fact} {fs : List Fact} (h : FA w f) (h2 : FW w fs) : FW w (f :: fs) := by
  intro g hg
  rcases List.mem_cons.1 hg with rfl | hg
  · exact h
  · exact h2 g hg
theorem FW.app {w : World} {fs gs : List Fact} (h : FW w fs) (h2 : FW w gs) : FW w (fs ++ gs) := by
  intro f hf
  rcases List.mem_append.1 hf with h1 | h1
  · exact h f h1
  · exact h2 f h1
theorem FA.fr {w w' : World} {f : Fact} (h : FA w f) (hf : Fr [] w w') : FA w' f :=
  ⟨f.dep w w' (fun k hk => hf.block k (h.2 k hk) (by simp)) h.1, fun k hk => Nat.lt_of_lt_of_le (h.2 k hk) hf.size⟩
theorem FA.slc {w : World} {sz n : Nat} {v : Value} {cs : List Value} (h : SlC sz w v n cs) : FA w (factC sz v n cs) := ⟨h, factC_lt h⟩
def andF (f g : Fact) : Fact where
  fp k := f.fp k ∨ g.fp k
  p w := f.p w ∧ g.p w
  dep w w' h hp := ⟨f.dep w w' (fun k hk => h k (.inl hk)) hp.1, g.dep w w' (fun k hk => h k (.inr hk)) hp.2⟩
def allF (fs : List Fact) : Fact where
  fp k := ∃ f ∈ fs, f.fp k
  p w := ∀ f ∈ fs, f.p w
  dep w w' h hp f hf := f.dep w w' (fun k hk => h k ⟨f, hf, hk⟩) (hp f hf)
theorem FA.and {w : World} {f g : Fact} (h1 : FA w f) (h2 : FA w g) : FA w (andF f g) := ⟨⟨h1.1, h2.1⟩, fun k hk => hk.elim (h1.2 k) (h2.2 k)⟩
theorem FA.l {w : World} {f g : Fact} (h : FA w (andF f g)) : FA w f := ⟨h.1.1, fun k hk => h.2 k (.inl hk)⟩
theorem FA.r {w : World} {f g : Fact} (h : FA w (andF f g)) : FA w g := ⟨h.1.2, fun k hk => h.2 k (.inr hk)⟩
theorem FA.of {w : World} {fs : List Fact} {f : Fact} (h : FA w (allF fs)) (hf : f ∈ fs) : FA w f := ⟨h.1 f hf, fun k hk => h.2 k ⟨f, hf, hk⟩⟩
theorem FA.all {w : World} {fs : List Fact} (h : FW w fs) : FA w (allF fs) := ⟨fun f hf => (h f hf).1, fun k ⟨f, hf, hk⟩ => (h f hf).2 k hk⟩
theorem OkW.fa {cx : Cx} {m : Mem} {fs : List Fact} {w : World} (h : OkW cx m fs w) (i : Nat) {f : Fact} (hi : fs[i]? = some f) : FA w f :=
  ⟨(h.facts _ (List.mem_of_getElem? hi)).1, fun k hk => ((h.facts _ (List.mem_of_getElem? hi)).2 k hk).1⟩
theorem okFW {P : Program} {nt : Nat} {w : World} {fs : List Fact} (h : FW w fs) : OkW { P := P, w0 := w, nt := nt, mods := [] } [] fs w := okW_facts h
/-- A fact about what was there when the call began. -/
theorem OkW.putF {cx : Cx} {m : Mem} {fs : List Fact} {w : World} (h : OkW cx m fs w) (hm : cx.mods = []) {f : Fact} (hf : FA cx.w0 f) : OkW cx m (fs ++ [f]) w := by
  refine ⟨h.mem, h.dis, h.may, fun g hg => ?_, h.fr⟩
  rcases List.mem_append.1 hg with h2 | h2
  · exact h.facts g h2
  · obtain rfl := List.mem_singleton.1 h2
    have hfr := h.fr
    rw [hm] at hfr
    have h3 := hf.fr hfr
    refine ⟨h3.1, fun k hk => ⟨h3.2 k hk, fun hkm => ?_⟩⟩
    rcases h.may k hkm with h4 | h4
    · have := hf.2 k hk
      omega
    · rw [hm] at h4; cases h4
/-- A fact about blocks that a call has laid. -/
theorem OkW.newF {cx : Cx} {m : Mem} {fs : List Fact} {w w' : World} (h : OkW cx m fs w) (hfr : Fr [] w w') {f : Fact} (hf : FA w' f) (hn : ∀ k, f.fp k → w.heap.size ≤ k) : OkW cx m (fs ++ [f]) w' := by
  have h1 := h.fr0 hfr
  refine ⟨h1.mem, h1.dis, h1.may, fun g hg => ?_, h1.fr⟩
  rcases List.mem_append.1 hg with h2 | h2
  · exact h1.facts g h2
  · obtain rfl := List.mem_singleton.1 h2
    refine ⟨hf.1, fun k hk => ⟨hf.2 k hk, fun hm => ?_⟩⟩
    have := h.lt hm
    have := hn k hk
    omega
theorem all_one {l : List Value} (h : l.all (·.oneCell') = true) : ∀ u ∈ l, u.oneCell' = true := fun u hu => List.all_eq_true.1 h u hu
theorem take_s {α : Type} {l : List α} {i : Nat} (d : α) (h : i < l.length) : l.take (i + 1) = l.take i ++ [l.getD i d] := by
  rw [List.take_add_one, List.getD_eq_getElem?_getD, List.getElem?_eq_getElem h]
  rfl
theorem getD_mem {α : Type} {l : List α} {i : Nat} {d : α} (h : i < l.length) : l.getD i d ∈ l := by
  rw [List.getD_eq_getElem?_getD, List.getElem?_eq_getElem h]
  exact List.getElem_mem h
theorem getD_map' {α β : Type} (f : α → β) {l : List α} {i : Nat} (d : α) (e : β) (h : i < l.length) : (l.map f).getD i e = f (l.getD i d) := by
  rw [List.getD_eq_getElem?_getD, List.getD_eq_getElem?_getD, List.getElem?_map, List.getElem?_eq_getElem h]
  rfl
theorem flat_get' {α : Type} {f : α → List Value} {sz : Nat} (hf : ∀ x, (f x).length = sz) : ∀ {l : List α} {i : Nat} (d : α) (k : Nat), i < l.length → k < sz → (l.map f).flatten[i * sz + k]? = (f (l.getD i d))[k]?
  | [], i, d, k, h, hk => by simp at h
  | x :: l, 0, d, k, h, hk => by
    rw [List.map_cons, List.flatten_cons, Nat.zero_mul, Nat.zero_add, List.getElem?_append_left (by rw [hf]; exact hk)]
    rfl
  | x :: l, i + 1, d, k, h, hk => by
    have hadd : (i + 1) * sz + k = sz + (i * sz + k) := by rw [Nat.add_mul]; omega
    rw [List.map_cons, List.flatten_cons, hadd, List.getElem?_append_right (by rw [hf]; omega), hf, show sz + (i * sz + k) - sz = i * sz + k by omega, flat_get' hf d k (by simpa using h) hk]
    rfl
theorem rows_v {α : Type} {f : α → List Value} {sz : Nat} {l : List α} {i : Nat} (d : α) (hf : ∀ x, (f x).length = sz + 1) (h : i < l.length) : ∀ (k : Nat) (u : Value), (f (l.getD i d))[k]? = some u → (l.map f).flatten[((i : Nat) : Int).toNat * (sz + 1) + k]? = some u := by
  intro k u hu
  have hk : k < sz + 1 := by rw [← hf (l.getD i d)]; exact (List.getElem?_eq_some_iff.1 hu).1
  rw [Int.toNat_natCast, flat_get' hf d k h hk]
  exact hu
theorem rows_1 {k : IntKind} {l : List Int} {i : Nat} (h : i < l.length) : (l.map (Value.int k))[((i : Nat) : Int).toNat * (0 + 1)]? = some (.int k (l.getD i 0)) := by
  rw [Int.toNat_natCast, Nat.zero_add, Nat.mul_one, List.getElem?_map, List.getElem?_eq_getElem h, List.getD_eq_getElem?_getD, List.getElem?_eq_getElem h]
  rfl
/-! ### Two lists, element by element -/
section
variable {α : Type} {a b : List α} {i : Nat}
theorem eqs_step (d : α) (h1 : i < a.length) (h2 : i < b.length) (ht : a.take i = b.take i) (he : a.getD i d = b.getD i d) : a.take (i + 1) = b.take (i + 1) := by
  rw [take_s d h1, take_s d h2, ht, he]
theorem eqs_ne (d : α) (he : a.getD i d ≠ b.getD i d) : ¬ a = b := fun h => he (by rw [h])
theorem eqs_len (h : a.length ≠ b.length) : ¬ a = b := fun h' => h (by rw [h'])
theorem eqs_all (hl : a.length = b.length) (h : a.length ≤ i) (ht : a.take i = b.take i) : a = b := by
  rwa [List.take_of_length_le h, List.take_of_length_le (by omega)] at ht
end
/-- A fact about new blocks alone. -/
structure NewF (w w' : World) (f : Fact) : Prop where
  fa : FA w' f
  new : ∀ k, f.fp k → w.heap.size ≤ k
theorem NewF.and {w w' : World} {f g : Fact} (h1 : NewF w w' f) (h2 : NewF w w' g) : NewF w w' (andF f g) := ⟨h1.fa.and h2.fa, fun k hk => hk.elim (h1.new k) (h2.new k)⟩
theorem NewF.l {w w' : World} {f g : Fact} (h : NewF w w' (andF f g)) : NewF w w' f := ⟨h.fa.l, fun k hk => h.new k (.inl hk)⟩
theorem NewF.r {w w' : World} {f g : Fact} (h : NewF w w' (andF f g)) : NewF w w' g := ⟨h.fa.r, fun k hk => h.new k (.inr hk)⟩
theorem NewF.all {w w' : World} {fs : List Fact} (h : ∀ f ∈ fs, NewF w w' f) : NewF w w' (allF fs) := ⟨.all fun f hf => (h f hf).fa, fun k ⟨f, hf, hk⟩ => (h f hf).new k hk⟩
theorem OkW.newN {cx : Cx} {m : Mem} {fs : List Fact} {w w' : World} (h : OkW cx m fs w) (hfr : Fr [] w w') {f : Fact} (hf : NewF w w' f) : OkW cx m (fs ++ [f]) w' := h.newF hfr hf.fa hf.new
/-- What is told at the end of facts that were learned on the way. -/
theorem NewF.at {cx : Cx} {m : Mem} {fs : List Fact} {w : World} (h : OkW cx m fs w) (i : Nat) {f : Fact} (hi : fs[i]? = some f) (hn : ∀ k, f.fp k → cx.w0.heap.size ≤ k) : NewF cx.w0 w f := ⟨h.fa i hi, hn⟩
/-- A row of one's own, at the end. -/
theorem NewF.own {cx : Cx} {m : Mem} {fs : List Fact} {w : World} {sz n : Nat} {q : OwnR} {ks : List Value} {T : TypeId} (h : OkW cx m fs w) (hm : cx.mods = []) (hs : ∀ x ∈ ownM T q ks, x ∈ m) (hq : OwnC sz q n ks) : NewF cx.w0 w (factC sz (.slice (oA q) n (oC q)) n ks) := by
  have h1 : SlC sz w (ownV q n) n ks := SlC.ofM h hs hq
  refine ⟨⟨h1, factC_lt h1⟩, fun k hk => ?_⟩
  rcases own_fp h hs hq k hk with h2 | h2
  · exact h2
  · rw [hm] at h2; cases h2
theorem one_map {α : Type} {f : α → List Value} (h : ∀ x, (f x).all (·.oneCell') = true) (l : List α) : ∀ u ∈ (l.map f).flatten, u.oneCell' = true := fun u hu => by
  obtain ⟨e, he, hu⟩ := List.mem_flatten.1 hu
  obtain ⟨x, _, rfl⟩ := List.mem_map.1 he
  exact all_one (h x) u hu
theorem one_ints {k : IntKind} (l : List Int) : ∀ u ∈ l.map (Value.int k), u.oneCell' = true := fun u hu => by
  obtain ⟨x, _, rfl⟩ := List.mem_map.1 hu
  rfl
end Go.Sx

/- Messages and clients as plain data, and their cells: no program in sight. -/
set_option linter.unusedVariables false
set_option linter.unusedSimpArgs false
set_option maxRecDepth 100000
namespace Go.Proofs.YtfdmjjhgdbpfeaaDoor
open Go.Sx
theorem l32_iff {f g : Dg} : l32 f = l32 g ↔ f = g := ⟨l32_inj, fun h => by rw [h]⟩
instance instDg : DecidableEq Dg := fun f g => decidable_of_iff (l32 f = l32 g) l32_iff
instance i1 : DecidableEq (ByteArray × ByteArray × Int × Dg) := instDecidableEqProd
instance i2 : DecidableEq (Int × Int × Int × ByteArray × ByteArray × Int × Dg) := inferInstance
instance i3 : DecidableEq Cmd := i2
instance i4 : DecidableEq (Cmd × Cl) := instDecidableEqProd
instance i5 : DecidableEq (Int × Int × Int × Cmd × Cl) := inferInstance
instance i6 : DecidableEq En := i5
instance i7 : DecidableEq Sg := inferInstance
abbrev mi (x : Int) : Value := .int .i64 x
def mints (l : List Int) : List Value := l.map (Value.int .i64)
def cmdM (x : Cmd) : List Value := [mi x.1, mi x.2.1, mi x.2.2.1, .string x.2.2.2.1, .string x.2.2.2.2.1, mi x.2.2.2.2.2.1] ++ dg (l32 x.2.2.2.2.2.2)
def hdM (x : Hd) : List Value := mi x.1 :: (dg (l32 x.2.1) ++ dg (l32 x.2.2))
def sgM (x : Sg) : List Value := hdM x.1 ++ dg (l32 x.2)
def vrM (x : Vr) : List Value := [mi x.1, mi x.2.1, .string x.2.2]
/-- A slice's place and capacity. -/
abbrev Sl := Option Addr × Nat
abbrev slN : Sl := (none, 0)
def clM (x : Cl) (a b : Sl) : List Value := [.slice a.1 x.1.length a.2, .slice b.1 x.2.length b.2]
def enM (x : En) (a b : Sl) : List Value := [mi x.1, mi x.2.1, mi x.2.2.1] ++ (cmdM x.2.2.2.1 ++ [.slice a.1 x.2.2.2.2.1.length a.2, .slice b.1 x.2.2.2.2.2.length b.2])
/-- An entry with the slices of its council. -/
abbrev EnV := En × Sl × Sl
def enW (p : EnV) : List Value := enM p.1 p.2.1 p.2.2
def clF (x : Cl) (a b : Sl) : Fact := andF (factC 1 (.slice a.1 x.1.length a.2) x.1.length (mints x.1)) (factC 1 (.slice b.1 x.2.length b.2) x.2.length (mints x.2))
def enF (p : EnV) : Fact := clF p.1.2.2.2.2 p.2.1 p.2.2
def esF (es : List EnV) (s : Sl) : Fact := andF (factC 43 (.slice s.1 es.length s.2) es.length (es.map enW).flatten) (allF (es.map enF))
/-- A reply's proof: siblings, another, its path and value. -/
structure Pf where
  sib : List Dg
  other : Bool
  path : Dg
  val : Dg
  deriving DecidableEq
structure Rp where
  code : Int
  seq : Int
  lead : Int
  index : Int
  epoch : Int
  vers : List Vr
  pf : Pf
  head : Sg
  deriving DecidableEq
structure Ms where
  kind : Int
  frm : Int
  to : Int
  term : Int
  index : Int
  logTerm : Int
  commit : Int
  round : Int
  ok : Bool
  entries : List En
  council : Cl
  total : Int
  offset : Int
  data : ByteArray
  cmd : Cmd
  ask : Int
  seq : Int
  user : ByteArray
  reply : Rp
  deriving DecidableEq
structure Ct where
  id : Int
  seq : Int
  target : Int
  busy : Bool
  msg : Ms
  tries : Int
  deriving DecidableEq
/-- The five lists' places: entries, voters, learners, versions, siblings. -/
structure M5 where
  e : Sl
  a : Sl
  b : Sl
  v : Sl
  s : Sl
def pfM (x : Pf) (v : Sl) : List Value := .slice v.1 x.sib.length v.2 :: .bool x.other :: (dg (l32 x.path) ++ dg (l32 x.val))
def rpM (x : Rp) (v s : Sl) : List Value := [mi x.code, mi x.seq, mi x.lead, mi x.index, mi x.epoch, .slice v.1 x.vers.length v.2] ++ (pfM x.pf s ++ sgM x.head)
def msM (x : Ms) (m : M5) : List Value := [mi x.kind, mi x.frm, mi x.to, mi x.term, mi x.index, mi x.logTerm, mi x.commit, mi x.round, .bool x.ok, .slice m.e.1 x.entries.length m.e.2, .slice m.a.1 x.council.1.length m.a.2, .slice m.b.1 x.council.2.length m.b.2, mi x.total, mi x.offset, .string x.data] ++ (cmdM x.cmd ++ ([mi x.ask, mi x.seq, .string x.user] ++ rpM x.reply m.v m.s))
def ctM (x : Ct) (m : M5) : List Value := [mi x.id, mi x.seq, mi x.target, .bool x.busy] ++ (msM x.msg m ++ [mi x.tries])
def vrF (l : List Vr) (s : Sl) : Fact := factC 3 (.slice s.1 l.length s.2) l.length (l.map vrM).flatten
def dgM (f : Dg) : List Value := dg (l32 f)
def sbF (l : List Dg) (s : Sl) : Fact := factC 32 (.slice s.1 l.length s.2) l.length (l.map dgM).flatten
def rpF (x : Rp) (v s : Sl) : Fact := andF (vrF x.vers v) (sbF x.pf.sib s)
/-- What a message's lists read as; es: the entries with their own slices. -/
def msF (x : Ms) (m : M5) (es : List EnV) : Fact := andF (esF es m.e) (andF (clF x.council m.a m.b) (rpF x.reply m.v m.s))
/-- A message's lists are there. -/
structure MsW (w : World) (x : Ms) (m : M5) (es : List EnV) : Prop where
  own : es.map Prod.fst = x.entries
  fa : FA w (msF x m es)
def pf0 : Pf := ⟨[], false, dz, dz⟩
def hd0 : Hd := (0, dz, dz)
def sg0 : Sg := (hd0, dz)
def cmd0 : Cmd := (0, 0, 0, ⟨#[]⟩, ⟨#[]⟩, 0, dz)
def rp0 : Rp := ⟨0, 0, 0, 0, 0, [], pf0, sg0⟩
def ms0 : Ms := ⟨0, 0, 0, 0, 0, 0, 0, 0, false, [], ([], []), 0, 0, ⟨#[]⟩, cmd0, 0, 0, ⟨#[]⟩, rp0⟩
def ct0 : Ct := ⟨0, 0, 0, false, ms0, 0⟩
def m50 : M5 := ⟨slN, slN, slN, slN, slN⟩
theorem msM_len (x : Ms) (m : M5) : (msM x m).length = 225 := rfl
theorem ctM_len (x : Ct) (m : M5) : (ctM x m).length = 230 := rfl

/-! ### What a client does -/
abbrev Cmd.cli (c : Cmd) : Prop := 1 ≤ c.2.1 ∧ c.2.1 ≤ 4 ∧ 1 ≤ c.2.2.1 ∧ c.2.2.1 ≤ 1000000 ∧ 1 ≤ c.2.2.2.1.size ∧ c.2.2.2.1.size ≤ 32 ∧ c.2.2.2.2.2.1 = 0 ∧ c.2.2.2.2.2.2 = dz
abbrev Cmd.nob (c : Cmd) : Prop := c.2.1 = 0 ∧ c.2.2.1 = 0 ∧ c.2.2.2.1 = ⟨#[]⟩ ∧ c.2.2.2.2.1 = ⟨#[]⟩ ∧ 1 ≤ c.2.2.2.2.2.1 ∧ c.2.2.2.2.2.1 ≤ 200
/-- A command may be. -/
def MayP (c : Cmd) : Prop := c.cli ∧ ((c.1 = 1 ∨ c.1 = 2) ∧ 1 ≤ c.2.2.2.2.1.size ∧ c.2.2.2.2.1.size ≤ 64 ∨ c.1 = 3 ∧ c.2.2.2.2.1 = ⟨#[]⟩) ∨ c.nob ∧ (c.1 = 4 ∧ c.2.2.2.2.2.2 = dz ∨ c.1 = 5)
instance (c : Cmd) : Decidable (MayP c) := by unfold MayP; infer_instance
def AskP (ask : Int) (user : ByteArray) : Prop := ask = 3 ∧ user = ⟨#[]⟩ ∨ (ask = 1 ∨ ask = 2) ∧ 1 ≤ user.size ∧ user.size ≤ 32
instance (a : Int) (u : ByteArray) : Decidable (AskP a u) := by unfold AskP; infer_instance
def reqM (c : Ct) (cmd : Cmd) : Ms := { ms0 with kind := 9, frm := -c.id, to := c.target, seq := c.seq, cmd := cmd }
def queM (c : Ct) (ask : Int) (user : ByteArray) : Ms := { ms0 with kind := 9, frm := -c.id, to := c.target, seq := c.seq, ask := ask, user := user }
def mayCallP (c : Ct) (cmd : Cmd) : Prop := MayP cmd ∧ cmd.2.1 = c.id ∧ cmd.2.2.1 = c.seq ∧ 0 < c.id
instance (c : Ct) (d : Cmd) : Decidable (mayCallP c d) := by unfold mayCallP; infer_instance
def mayAskP (c : Ct) (ask : Int) (user : ByteArray) : Prop := AskP ask user ∧ 1 ≤ c.seq
instance (c : Ct) (a : Int) (u : ByteArray) : Decidable (mayAskP c a u) := by unfold mayAskP; infer_instance
abbrev numsP (c : Ct) : Prop := (1 ≤ c.id ∧ c.id ≤ 4) ∧ (0 ≤ c.seq ∧ c.seq ≤ 1000000) ∧ (1 ≤ c.target ∧ c.target ≤ 7) ∧ 0 ≤ c.tries ∧ c.tries ≤ 1000
def msgP (c : Ct) : Prop := if c.busy then (if c.msg.ask = 0 then mayCallP c c.msg.cmd ∧ c.msg = reqM c c.msg.cmd else mayAskP c c.msg.ask c.msg.user ∧ c.msg = queM c c.msg.ask c.msg.user) else c.tries = 0 ∧ c.msg = ms0
instance (c : Ct) : Decidable (msgP c) := by unfold msgP; infer_instance
/-- A client is right. -/
def RightP (c : Ct) : Prop := numsP c ∧ msgP c
instance (c : Ct) : Decidable (RightP c) := by unfold RightP; infer_instance
def readyE (c : Ct) : Int := if RightP c then (if c.busy then 181 else if 1000000 ≤ c.seq then 180 else 0) else 180
def upC (c : Ct) : Ct := { c with seq := c.seq + 1 }
def ownCmd (c : Ct) (cmd : Cmd) : Cmd := (cmd.1, c.id, c.seq + 1, cmd.2.2.2)
def afterN (n : Int) : Int := if 7 ≤ n then 1 else n + 1
def turnC (c : Ct) (n : Int) : Ct := { c with target := n, tries := if 1000 < c.tries + 1 then 1000 else c.tries + 1, msg := { c.msg with to := n } }
end Go.Proofs.YtfdmjjhgdbpfeaaDoor

/- What a proof's check and two proofs' clash come to: no program in sight. -/
set_option linter.unusedVariables false
set_option linter.unusedSimpArgs false
set_option maxRecDepth 100000
namespace Go.Proofs.YtfdmjjhgdbpfeaaDoor
open Go.Sx
/-- A claim: is there a value, and which. -/
abbrev Cm := Bool × Dg
def cmM (c : Cm) : List Value := .bool c.1 :: dg (l32 c.2)
instance instCm : DecidableEq Cm := instDecidableEqProd
def DB (d : Dg) : Prop := Byt (l32 d)
def shD (b : List Int) : Dg := ofL (shaP b)
theorem l32_shD (b : List Int) : l32 (shD b) = shaP b := l32_ofL (shaP_len b)
theorem shD_byt (b : List Int) : DB (shD b) := by unfold DB; rw [l32_shD]; exact shaP_byt b
def startP (p : Dg) (c : Cm) (x : Pf) : List Int := if c.1 = true then 0 :: (l32 p ++ l32 c.2) else if x.other = true then 0 :: (l32 x.path ++ l32 x.val) else [2]
def nodeP (l r : Dg) : List Int := 1 :: (l32 l ++ l32 r)
def stepP (p : Dg) (sib : List Dg) (i : Nat) (b : List Int) : List Int := if bitOf (l32 p) i = 1 then nodeP (sib.getD i dz) (shD b) else nodeP (shD b) (sib.getD i dz)
/-- What is summed so many places above the end. -/
def upP (p : Dg) (c : Cm) (x : Pf) : Nat → List Int
  | 0 => startP p c x
  | k + 1 => stepP p x.sib (x.sib.length - 1 - k) (upP p c x k)
def mayPf (p : Dg) (c : Cm) (x : Pf) : Prop := (x.sib.length ≤ 256 ∧ (c.1 = true ∨ c.2 = dz)) ∧ if x.other = true then c.1 = false ∧ x.path ≠ p ∧ (x.sib.length : Int) ≤ com (l32 p) (l32 x.path) else x.path = dz ∧ x.val = dz
instance (p : Dg) (c : Cm) (x : Pf) : Decidable (mayPf p c x) := by unfold mayPf; infer_instance
def topD (p : Dg) (c : Cm) (x : Pf) : Dg := shD (upP p c x x.sib.length)
def pchk (root p : Dg) (c : Cm) (x : Pf) : Int := if mayPf p c x then (if topD p c x = root then 0 else 41) else 40
theorem startP_byt {p : Dg} {c : Cm} {x : Pf} (hp : DB p) (hc : DB c.2) (h1 : DB x.path) (h2 : DB x.val) : Byt (startP p c x) := by
  have e : ∀ a b : Dg, DB a → DB b → Byt (0 :: (l32 a ++ l32 b)) := fun a b ha hb y hy => by
    rcases List.mem_cons.1 hy with rfl | hy
    · omega
    · exact (ha.append hb) y hy
  unfold startP
  split
  · exact e _ _ hp hc
  · split
    · exact e _ _ h1 h2
    · intro y hy
      simp at hy
      omega
theorem nodeP_byt {a b : Dg} (ha : DB a) (hb : DB b) : Byt (nodeP a b) := fun y hy => by
  rcases List.mem_cons.1 hy with rfl | hy
  · omega
  · exact (Byt.append ha hb) y hy
theorem getD_db {sib : List Dg} (h : ∀ f ∈ sib, DB f) (i : Nat) : DB (sib.getD i dz) := by
  rw [List.getD_eq_getElem?_getD]
  cases hq : sib[i]? with
  | none => exact zd_byt
  | some d => exact h d (List.mem_of_getElem? hq)
theorem stepP_byt {p : Dg} {sib : List Dg} (h : ∀ f ∈ sib, DB f) (i : Nat) (b : List Int) : Byt (stepP p sib i b) := by
  unfold stepP
  split
  · exact nodeP_byt (getD_db h i) (shD_byt b)
  · exact nodeP_byt (shD_byt b) (getD_db h i)
theorem upP_byt {p : Dg} {c : Cm} {x : Pf} (hp : DB p) (hc : DB c.2) (h0 : ∀ f ∈ x.sib, DB f) (h1 : DB x.path) (h2 : DB x.val) : ∀ k, Byt (upP p c x k)
  | 0 => startP_byt hp hc h1 h2
  | k + 1 => stepP_byt h0 _ _
theorem nodeP_len (a b : Dg) : (nodeP a b).length = 65 := rfl
theorem startP_len (p : Dg) (c : Cm) (x : Pf) : (startP p c x).length = 65 ∨ (startP p c x).length = 1 := by
  unfold startP
  split
  · exact .inl rfl
  · split
    · exact .inl rfl
    · exact .inr rfl
theorem upP_len (p : Dg) (c : Cm) (x : Pf) (k : Nat) : (upP p c x k).length ≤ 65 ∧ 1 ≤ (upP p c x k).length := by
  cases k with
  | zero => have := startP_len p c x; show (startP p c x).length ≤ 65 ∧ _; constructor <;> (try show _ ≤ (startP p c x).length) <;> omega
  | succ k => show (stepP _ _ _ _).length ≤ 65 ∧ 1 ≤ (stepP _ _ _ _).length; unfold stepP; split <;> (rw [nodeP_len]; omega)
/-! ### The same from the top -/
def dnP (p : Dg) (c : Cm) (x : Pf) (j : Nat) : List Int := upP p c x (x.sib.length - j)
theorem dnP_top (p : Dg) (c : Cm) (x : Pf) : dnP p c x 0 = upP p c x x.sib.length := rfl
theorem dnP_end (p : Dg) (c : Cm) (x : Pf) : dnP p c x x.sib.length = startP p c x := by unfold dnP; rw [Nat.sub_self]; rfl
theorem dnP_step {p : Dg} {c : Cm} {x : Pf} {j : Nat} (h : j < x.sib.length) : dnP p c x j = stepP p x.sib j (dnP p c x (j + 1)) := by
  unfold dnP
  rw [show x.sib.length - j = (x.sib.length - (j + 1)) + 1 by omega]
  show stepP p x.sib (x.sib.length - 1 - (x.sib.length - (j + 1))) _ = _
  rw [show x.sib.length - 1 - (x.sib.length - (j + 1)) = j by omega]
theorem app32 {a b a' b' : Dg} (h : l32 a ++ l32 b = l32 a' ++ l32 b') : a = a' ∧ b = b' := by
  obtain ⟨h1, h2⟩ := List.append_inj h rfl
  exact ⟨l32_inj h1, l32_inj h2⟩
theorem stepP_inj {p : Dg} {s t : List Dg} {i : Nat} {a b : List Int} (h : stepP p s i a = stepP p t i b) : shD a = shD b := by
  unfold stepP nodeP at h
  split at h
  · exact (app32 (List.cons.inj h).2).2
  · exact (app32 (List.cons.inj h).2).1
theorem start_node {p : Dg} {c : Cm} {x : Pf} {q : Dg} {s : List Dg} {i : Nat} {b : List Int} : startP p c x ≠ stepP q s i b := by
  intro h
  have h1 := congrArg List.head? h
  unfold startP stepP nodeP at h1
  split at h1 <;> split at h1 <;> (try split at h1) <;> simp at h1
theorem start_inj {p : Dg} {c d : Cm} {x y : Pf} (hx : mayPf p c x) (hy : mayPf p d y) (h : startP p c x = startP p d y) : c = d := by
  obtain ⟨⟨_, hc⟩, hx2⟩ := hx
  obtain ⟨⟨_, hd⟩, hy2⟩ := hy
  obtain ⟨c1, c2⟩ := c
  obtain ⟨d1, d2⟩ := d
  unfold startP at h
  cases c1 <;> cases d1 <;> simp only [Bool.false_eq_true, if_false, if_true, false_or] at *
  · rw [hc, hd]
  · exfalso
    cases hxo : x.other <;> rw [hxo] at h hx2 <;> simp only [Bool.false_eq_true, if_false, if_true] at h hx2
    · have := congrArg List.length h
      simp [l32_len] at this
    · exact hx2.2.1 (app32 (List.cons.inj h).2).1
  · exfalso
    cases hyo : y.other <;> rw [hyo] at h hy2 <;> simp only [Bool.false_eq_true, if_false, if_true] at h hy2
    · have := congrArg List.length h
      simp [l32_len] at this
    · exact hy2.2.1 (app32 (List.cons.inj h).2).1.symm
  · rw [(app32 (List.cons.inj h).2).2]
/-- Two proofs of unlike claims part somewhere. -/
theorem part_ex {root p : Dg} {c d : Cm} {x y : Pf} (hx : mayPf p c x) (hy : mayPf p d y) (hne : c ≠ d) : ∃ j, j ≤ x.sib.length ∧ j ≤ y.sib.length ∧ dnP p c x j ≠ dnP p d y j := by
  refine Classical.byContradiction fun hn => ?_
  have all : ∀ j, j ≤ x.sib.length → j ≤ y.sib.length → dnP p c x j = dnP p d y j := fun j h1 h2 => Classical.byContradiction fun h => hn ⟨j, h1, h2, h⟩
  rcases Nat.lt_trichotomy x.sib.length y.sib.length with h | h | h
  · have h1 := all _ (Nat.le_refl _) (Nat.le_of_lt h)
    rw [dnP_end, dnP_step h] at h1
    exact start_node h1
  · have h1 := all _ (Nat.le_refl _) (Nat.le_of_eq h)
    rw [dnP_end, h, dnP_end] at h1
    exact hne (start_inj hx hy h1)
  · have h1 := all _ (Nat.le_of_lt h) (Nat.le_refl _)
    rw [dnP_end, dnP_step h] at h1
    exact start_node h1.symm
/-- Where they part first, the sums are the same. -/
theorem part_sum {root p : Dg} {c d : Cm} {x y : Pf} (hx : topD p c x = root) (hy : topD p d y = root) {j : Nat} (h1 : j ≤ x.sib.length) (h2 : j ≤ y.sib.length) (hb : ∀ i, i < j → dnP p c x i = dnP p d y i) : shD (dnP p c x j) = shD (dnP p d y j) := by
  cases j with
  | zero => exact hx.trans hy.symm
  | succ i =>
    have h3 := hb i (Nat.lt_succ_self i)
    rw [dnP_step (c := c) (x := x) (by omega), dnP_step (c := d) (x := y) (by omega)] at h3
    exact stepP_inj h3
end Go.Proofs.YtfdmjjhgdbpfeaaDoor
