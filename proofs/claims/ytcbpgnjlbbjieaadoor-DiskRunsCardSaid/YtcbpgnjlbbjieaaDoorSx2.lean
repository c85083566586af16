/- More rules: lists that a function hands back; two operations that turn the world and are open at once; slices and nil; structs' rows. -/
import Derived.Test.YtcbpgnjlbbjieaaDoorSx
set_option linter.unusedVariables false
set_option linter.unusedSimpArgs false
namespace Go.Sx
theorem nbT {b : Bool} (h : (!b) = true) : b = false := by cases b <;> first | rfl | cases h
theorem nbF {b : Bool} (h : (!b) = false) : b = true := by cases b <;> first | rfl | cases h
section
variable {cx : Cx} {o : Oper} {ops : Array Oper} {K : St → Prop} {rest : List Oper} {st : St}
/-- A function hands back a row of its own (or nil). -/
def RetO (T : TypeId) (size : Nat) (w : World) (ks : List Value) (n : Nat) (val : Value → Value) : Ending → World → Prop := fun e w' =>
  ∃ q, e = .returned (val (ownV q n)) ∧ OwnC size q n ks ∧ Fr [] w w' ∧ ∀ b o, (b, o) ∈ ownM T q ks → w.heap.size ≤ b ∧ w'.heap[b]? = some o
theorem okW_own {m : Mem} {fs : List Fact} {w w' : World} {T : TypeId} {q : OwnR} {ks : List Value} (h : OkW cx m fs w) (hfr : Fr [] w w') (hn : ∀ b o, (b, o) ∈ ownM T q ks → w.heap.size ≤ b ∧ w'.heap[b]? = some o) : OkW cx (m ++ ownM T q ks) fs w' := by
  cases q with
  | none => simpa [ownM] using h.fr0 hfr
  | some q =>
    obtain ⟨g, c, r⟩ := q
    have := hn g (row T (ks ++ r)) (by simp [ownM])
    exact h.add hfr this.2 this.1
theorem S_callO {x : Operand} {args : Array Operand} {at_ : Array TypeId} {f : FuncId} {cap : Array Value} {vs : List Value} {d n size : Nat} {T : TypeId} {ks : List Value} {val : Value → Value} (ho : o.op = .call { callee := .value x, args := args, argTypes := at_ })
    (hd : o.dst = some d) (hlt : Nat.blt d cx.nt = true) (hx : ev st.env x = some (.func (.func f) #[] cap)) (hv : evs st.env args.toList = some vs) (hf : Txt cx.P f)
    (hc : ∀ w, OkW cx st.mem st.facts w → Calls cx.P f (vs.toArray ++ cap) w (RetO T size w ks n val))
    (h : ∀ q, OwnC size q n ks → K { st with env := (d, val (ownV q n)) :: st.env, mem := st.mem ++ ownM T q ks }) : S cx o K st :=
  S_call ho hx hv hf fun w hw => (hc w hw).mono fun e w' ⟨q, he, hq, hfr, hn⟩ => ⟨_, _, _, he, okW_own hw hfr hn, by rw [hd]; exact ⟨hlt, h q hq⟩⟩
theorem L_callO {x : Operand} {args : Array Operand} {at_ : Array TypeId} {f : FuncId} {cap : Array Value} {vs : List Value} {d n size : Nat} {T : TypeId} {ks : List Value} {val : Value → Value} (hg : o.guard = none) (ho : o.op = .call { callee := .value x, args := args, argTypes := at_ })
    (hd : o.dst = some d) (hlt : Nat.blt d cx.nt = true) (hx : ev st.env x = some (.func (.func f) #[] cap)) (hv : evs st.env args.toList = some vs) (hf : Txt cx.P f)
    (hc : ∀ w, OkW cx st.mem st.facts w → Calls cx.P f (vs.toArray ++ cap) w (RetO T size w ks n val))
    (h : ∀ q, OwnC size q n ks → L cx ops K rest { st with env := (d, val (ownV q n)) :: st.env, mem := st.mem ++ ownM T q ks }) : L cx ops K (o :: rest) st :=
  L_cons hg (S_callO ho hd hlt hx hv hf hc h)
theorem RetO.of {m m1 m2 : Mem} {fs : List Fact} {w : World} (hw : OkW cx m fs w) (hm : cx.mods = []) {T : TypeId} {q : OwnR} {ks : List Value} {n size : Nat} {val : Value → Value} {v : Value} (hq : OwnC size q n ks) (hv : v = val (ownV q n)) (hi : m = m1 ++ (ownM T q ks ++ m2)) :
    RetO T size cx.w0 ks n val (.returned v) w := by
  refine ⟨q, by rw [hv], hq, by rw [← hm]; exact hw.fr, fun b p hb => ?_⟩
  have hb' : (b, p) ∈ m := by rw [hi]; exact List.mem_append_right _ (List.mem_append_left _ hb)
  refine ⟨?_, hw.mem _ _ hb'⟩
  have := hw.may b (List.mem_map.2 ⟨_, hb', rfl⟩)
  rw [hm] at this
  simpa using this
theorem RetO.nil {m : Mem} {fs : List Fact} {w : World} (hw : OkW cx m fs w) (hm : cx.mods = []) {T : TypeId} {n size : Nat} {val : Value → Value} {v : Value} (hn : n = 0) (hv : v = val (.slice none 0 0)) : RetO T size cx.w0 [] n val (.returned v) w := by
  subst hn
  exact RetO.of (q := none) (m1 := m) (m2 := []) hw hm ⟨rfl, rfl⟩ hv (by simp [ownM])
theorem OwnC.forms {size : Nat} {q : OwnR} {n : Nat} {ks : List Value} (h : OwnC size q n ks) (hn : 0 < n) : ∃ g c r, q = some (g, c, r) ∧ ks.length = n * size ∧ n ≤ c ∧ r.length = (c - n) * size := by
  cases q with
  | none => exact absurd h.1 (by omega)
  | some q => exact ⟨q.1, q.2.1, q.2.2, rfl, h.1, h.2.1, h.2.2⟩

theorem SlC.in {size : Nat} {m : Mem} {fs : List Fact} {b n : Nat} {ks r : List Value} {T : TypeId} {fz : Nat × Nat} {w : World} (h : OkW cx m fs w) (hi : (b, Obj.cells (ks ++ r).toArray T fz) ∈ m) (hl : ks.length = n * size) (c : Nat) : SlC size w (.slice (some ⟨b, 0, none⟩) n c) n ks := by
  obtain ⟨i, hi⟩ := List.mem_iff_getElem?.1 hi
  exact SlC.of_own h hi hl c
theorem SlC.none0 {size : Nat} {w : World} {n c : Nat} {cs : List Value} (h : SlC size w (.slice none n c) n cs) : n = 0 ∧ cs = [] := by
  rcases h with ⟨h1, h2, _⟩ | ⟨b, off, c', e, _⟩
  · exact ⟨h1, h2⟩
  · simp at e

theorem SlC.ofM {size : Nat} {m : Mem} {fs : List Fact} {w : World} {e : TypeId} {q : OwnR} {n : Nat} {ks : List Value} (h : OkW cx m fs w) (hm : ∀ p ∈ ownM e q ks, p ∈ m) (hq : OwnC size q n ks) : SlC size w (ownV q n) n ks := by
  cases q with
  | none => exact .inl ⟨hq.1, hq.2, none, 0, by rw [hq.1]; rfl⟩
  | some q =>
    obtain ⟨b, c, r⟩ := q
    exact SlC.in (T := e) (r := r) (fz := (0, 0)) h (hm _ (by simp [ownM])) hq.1 c
theorem OwnC.le {size : Nat} {q : OwnR} {n : Nat} {ks : List Value} (h : OwnC size q n ks) : n ≤ oC q := by
  cases q with
  | none => rw [h.1]; exact Nat.le_refl _
  | some q => exact h.2.1

/-! ### Slices and nil -/
theorem run_eqNilS {P : Program} {t e : TypeId} (w : World) (d : Nat) (ht : P.underlying t = some (.slice e)) (a : Option Addr) (n c : Nat) : (Op.equalIn (d + 1) t (.slice a n c) (.slice none 0 0)).run P w = .ok a.isNone w := by
  cases a <;> simp [Op.equalIn, run_underlying ht]
theorem V_eqN {t yt e : TypeId} {x y : Operand} {a : Option Addr} {n c : Nat} {r : Bool} (ho : o.op = .binOp .eql t x y yt) (hx : ev st.env x = some (.slice a n c)) (hy : ev st.env y = some (.slice none 0 0)) (ht : cx.P.underlying t = some (.slice e)) (hr : a.isNone = r) : V cx o st (.bool r) :=
  ⟨nd ho (fun c h => by cases h), fun a' w h => by
    subst hr
    unfold execOp; rw [ho]
    have hg : (eqGuard .eql t x y (.slice a n c) (.slice none 0 0)).run cx.P w = .ok () w := rfl
    have he : (Op.equal t (.slice a n c) (.slice none 0 0)).run cx.P w = .ok a.isNone w := run_eqNilS w 9999 ht a n c
    simp only [h.a.ev hx, h.a.ev hy, Sem.run_bind, hg, Result.andThen_ok, binOp, he, Sem.run_pure]⟩
theorem V_neN {t yt e : TypeId} {x y : Operand} {a : Option Addr} {n c : Nat} {r : Bool} (ho : o.op = .binOp .neq t x y yt) (hx : ev st.env x = some (.slice a n c)) (hy : ev st.env y = some (.slice none 0 0)) (ht : cx.P.underlying t = some (.slice e)) (hr : (!a.isNone) = r) : V cx o st (.bool r) :=
  ⟨nd ho (fun c h => by cases h), fun a' w h => by
    subst hr
    unfold execOp; rw [ho]
    have hg : (eqGuard .neq t x y (.slice a n c) (.slice none 0 0)).run cx.P w = .ok () w := rfl
    have he : (Op.equal t (.slice a n c) (.slice none 0 0)).run cx.P w = .ok a.isNone w := run_eqNilS w 9999 ht a n c
    simp only [h.a.ev hx, h.a.ev hy, Sem.run_bind, hg, Result.andThen_ok, binOp, he, Sem.run_pure]⟩

/-! ### A literal row -/
theorem S_buildSlice {t e : TypeId} {parts : Array (Nat × Operand)} {d len : Nat} {vs : List (Nat × Value)} {l : List Value} (ho : o.op = .buildSlice t len parts) (hd : o.dst = some d) (hlt : Nat.blt d cx.nt = true)
    (hp : parts.toList.map (fun p => (p.1, ev st.env p.2)) = vs.map (fun p => (p.1, some p.2))) (hr : ∀ w, (Instr.buildSlice t len vs.toArray).run cx.P w = .ok (.slice (some ⟨w.heap.size, 0, none⟩) len len) (w.alloc (row e l)))
    (h : ∀ g, K { st with env := (d, .slice (some ⟨g, 0, none⟩) len len) :: st.env, mem := st.mem ++ [(g, row e l)] }) : S cx o K st := by
  intro Q next a w hok hk
  have e1 : parts.map (fun p => (p.1, a.eval p.2)) = vs.toArray := by
    apply Array.ext'
    simp only [Array.toList_map]
    have hl : parts.toList.length = vs.length := by simpa using congrArg List.length hp
    apply List.ext_getElem
    · simpa using hl
    · intro i h1 h2
      have h3 : i < parts.toList.length := by simpa using h1
      have := congrArg (fun l => l[i]?) hp
      simp only [List.getElem?_map, List.getElem?_eq_getElem h3, List.getElem?_eq_getElem (show i < vs.length by simpa using h2), Option.map_some, Option.some.injEq, Prod.mk.injEq] at this
      simp only [List.getElem_map]
      rw [Prod.ext_iff]
      exact ⟨this.1, hok.a.ev this.2⟩
  refine wpIn_value (nd ho (fun c h => by cases h)) (w' := w.alloc (row e l)) (v := .slice (some ⟨w.heap.size, 0, none⟩) len len) ?_ ?_
  · unfold execOp; rw [ho]
    simp only [e1, Sem.run_bind, hr w, Result.andThen_ok, Sem.run_pure]
  · rw [hd]
    exact hk _ _ _ ⟨hok.a.put hlt _, hok.w.alloc _⟩ (h _)
end
end Go.Sx
