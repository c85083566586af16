/- More rules: what lays bytes into a block's slice, and panics if it can't; interfaces; parts of wide blocks; a block of one's own that is only read from now on. -/
import Derived.Test.YtcbpgnjlbbjieaaDoorSx8
set_option linter.unusedVariables false
set_option linter.unusedSimpArgs false
namespace Go.Sx
section
variable {cx : Cx} {ops : Array Oper} {Kx : Exit → St → Prop} {K : St → Prop} {o : Oper} {rest : List Oper} {st : St}
theorem V_makeIface {t : TypeId} {d : TypeDesc} {x : Operand} {v : Value} (ho : o.op = .makeInterface t x) (hx : ev st.env x = some v) (hu : cx.P.underlying t = some d) (hd : (match d with | .interface _ => false | _ => true) = true) : V cx o st (.iface t v) :=
  ⟨nd ho (fun c h => by cases h), fun a w h => by
    unfold execOp; rw [ho]
    simp only [h.a.ev hx, Instr.makeInterface, Sem.run_bind, run_underlying hu, Result.andThen_ok]
    cases d <;> first | rfl | (simp at hd)⟩
theorem V_typeAssert {xt t : TypeId} {fs : Array Field} {x : Operand} {v : Value} (ho : o.op = .typeAssert x xt t false) (hx : ev st.env x = some (.iface t v)) (hu : cx.P.underlying t = some (.struct fs)) : V cx o st v :=
  ⟨nd ho (fun c h => by cases h), fun a w h => by
    unfold execOp; rw [ho]
    simp only [h.a.ev hx, Instr.typeAssert, Sem.run_bind, run_underlying hu, Result.andThen_ok, if_true]
    rfl⟩
/-- A part of a block of the list, taken as it stands. -/
theorem V_loadT {t : TypeId} {x : Operand} {d : TypeDesc} (i : Nat) {b off sz : Nat} {l vs : List Value} {T : TypeId} {fz : Nat × Nat} (ho : o.op = .load t x) (hx : ev st.env x = some (.pointer (some ⟨b, off, none⟩)))
    (hi : st.mem[i]? = some (b, .cells l.toArray T fz)) (hu : cx.P.underlying t = some d) (hs : scalarB d = false) (hz : (cx.P.info? t).map (·.size) = some sz) (hp : (l.drop off).take sz = vs) (hl : vs.length = sz) : V cx o st (.agg vs.toArray) := by
  refine V_loadP i (l := l) (vs := vs) ho hx hi hu hs (by rw [hl]; exact hz) (fun j hj => ?_)
  rw [← hp, List.getElem?_take, if_pos (by omega), List.getElem?_drop]
/-- A store of a part of a block of one's own. -/
theorem L_storeT {t : TypeId} {x y : Operand} (i : Nat) {b off : Nat} {l vs l' : List Value} {T : TypeId} (hg : o.guard = none) (ho : o.op = .store t x y) (hd : o.dst = none) (hx : ev st.env x = some (.pointer (some ⟨b, off, none⟩))) (hy : ev st.env y = some (.agg vs.toArray))
    (hi : st.mem[i]? = some (b, row T l)) (hz : (cx.P.info? t).map (·.size) = some vs.length) (h1 : ∀ u ∈ vs, u.oneCell' = true) (hfit : off + vs.length ≤ l.length) (hl : l.take off ++ vs ++ l.drop (off + vs.length) = l')
    (h : L cx ops K rest { st with mem := st.mem.set i (b, row T l') }) : L cx ops K (o :: rest) st :=
  L_cons hg (S_store i ho hd hx hy hi rfl hz h1 hfit hl h)

theorem S_store1 {t : TypeId} {x y : Operand} (i : Nat) {b off : Nat} {l l' : List Value} {T : TypeId} {v : Value} (ho : o.op = .store t x y) (hd : o.dst = none) (hx : ev st.env x = some (.pointer (some ⟨b, off, none⟩))) (hy : ev st.env y = some v)
    (hi : st.mem[i]? = some (b, row T l)) (h1 : v.oneCell' = true) (hz : (cx.P.info? t).map (·.size) = some 1) (hfit : off < l.length) (hl : l.set off v = l')
    (h : K { st with mem := st.mem.set i (b, row T l') }) : S cx o K st :=
  S_store i (vs := [v]) ho hd hx hy hi (by cases v <;> first | rfl | (simp [Value.oneCell'] at h1)) hz (by simpa using h1) (by simp only [List.length_singleton]; omega) (by
    rw [← hl, List.set_eq_take_append_cons_drop, if_pos hfit]; simp) h
/-- What was thrown. -/
def stp (S : TypeId) (k : Int) : PanicEntry := { v := .iface S (.agg [.int .i64 k].toArray), recovered := false }
/-- Bytes in a row of their own, with room behind them; or nil. -/
def SlR (w : World) (v : Value) (l : List Int) : Prop :=
  (l = [] ∧ v = .slice none 0 0) ∨ (l ≠ [] ∧ ∃ g c r, v = .slice (some ⟨g, 0, none⟩) l.length c ∧ w.heap[g]? = some (row 5 (dg l ++ r)) ∧ r.length = c - l.length ∧ l.length ≤ c)
theorem SlR.toB {w : World} {v : Value} {l : List Int} (h : SlR w v l) : SlB w v l := by
  rcases h with ⟨rfl, rfl⟩ | ⟨hne, g, c, r, rfl, hg, hr, hc⟩
  · exact .inl ⟨rfl, none, 0, rfl⟩
  · refine .inr ⟨g, 0, c, rfl, fun j x hj => cell_of hg ?_⟩
    have hlt := (List.getElem?_eq_some_iff.1 hj).1
    rw [Nat.zero_add, List.getElem?_toArray, List.getElem?_append_left (by rw [dg_length]; exact hlt)]
    simp [dg, hj]
theorem SlR.dep {w w' : World} {v : Value} {l : List Int} (hk : ∀ k, (factB v l).fp k → w'.heap[k]? = w.heap[k]?) (h : SlR w v l) : SlR w' v l := by
  rcases h with h | ⟨hne, g, c, r, rfl, hg, hr, hc⟩
  · exact .inl h
  · exact .inr ⟨hne, g, c, r, rfl, by rw [hk g ⟨hne, _, _, _, rfl⟩]; exact hg, hr, hc⟩
theorem SlR.nil (w : World) : SlR w (.slice none 0 0) [] := .inl ⟨rfl, rfl⟩
theorem SlR.size {w : World} {a : Option Addr} {n c : Nat} {l : List Int} (h : SlR w (.slice a n c) l) : l.length = n := h.toB.size
theorem SlR.of_own {m : Mem} {fs : List Fact} {w : World} {cx : Cx} {i g n c : Nat} {l : List Int} {r : List Value} (h : OkW cx m fs w) (hi : m[i]? = some (g, row 5 (dg l ++ r))) (hl : l.length = n) (hne : l ≠ []) (hc : n ≤ c) (hr : r.length = c - n) : SlR w (.slice (some ⟨g, 0, none⟩) n c) l := by
  subst hl
  exact .inr ⟨hne, g, c, r, rfl, h.at hi, hr, hc⟩
def factR (v : Value) (l : List Int) : Fact := { fp := (factB v l).fp, p := fun w => SlR w v l, dep := fun _ _ hk h => SlR.dep hk h }
theorem fR {cx : Cx} {m : Mem} {fs : List Fact} {w : World} (h : OkW cx m fs w) (i : Nat) {u : Value} {l : List Int} (hi : fs[i]? = some (factR u l)) : SlR w u l := (h.facts _ (List.mem_of_getElem? hi)).1
/-- A call that lays bytes behind those that block b's slice reads as; or throws. -/
def OutP (T S : TypeId) (w : World) (b : Nat) (v0 : Value) (L : List Int) (r : Except Int (List Int)) : Ending → World → Prop := fun e w' => Fr [b] w w' ∧ match r with
  | .ok M => e = .returned (.tuple #[]) ∧ ∃ a n c, w'.heap[b]? = some (row T [.slice a n c]) ∧ SlR w' (.slice a n c) (L ++ M) ∧ n ≤ c ∧ ∀ k, (factB (.slice a n c) (L ++ M)).fp k → w.heap.size ≤ k ∨ (factB v0 L).fp k
  | .error k => e = .panicked [stp S k]
theorem OutP.err {T S : TypeId} {w w' : World} {b : Nat} {v0 : Value} {L : List Int} {r : Except Int (List Int)} {k : Int} (hr : r = .error k) (hfr : Fr [b] w w') : OutP T S w b v0 L r (.panicked [stp S k]) w' := by
  subst hr
  exact ⟨hfr, rfl⟩
theorem OutP.ok {T S : TypeId} {w w' : World} {b : Nat} {v0 : Value} {L M L' : List Int} {r : Except Int (List Int)} {a : Option Addr} {n c : Nat} (hr : r = .ok M) (hfr : Fr [b] w w') (hb : w'.heap[b]? = some (row T [.slice a n c])) (hL : L' = L ++ M) (hs : SlR w' (.slice a n c) L') (hc : n ≤ c)
    (hn : ∀ k, (factB (.slice a n c) L').fp k → w.heap.size ≤ k ∨ (factB v0 L).fp k) : OutP T S w b v0 L r (.returned (.tuple #[])) w' := by
  subst hr hL
  exact ⟨hfr, rfl, a, n, c, hb, hs, hc, hn⟩
/-- What block b's slice reads as stays known: where its bytes may lie. -/
def Nw (w : World) (v0 : Value) (L : List Int) (v : Value) (l : List Int) : Prop := ∀ k, (factB v l).fp k → w.heap.size ≤ k ∨ (factB v0 L).fp k
theorem Nw.refl (w : World) (v0 : Value) (L : List Int) : Nw w v0 L v0 L := fun k hk => .inr hk

theorem OkW.out {m : Mem} {fs : List Fact} {w w' : World} {v v' : Value} {L L' : List Int} {p p' : Obj} {b i : Nat} (h : OkW cx m (factR v L :: fs) w) (hi : m[i]? = some (b, p)) (hfr : Fr [b] w w') (hb : w'.heap[b]? = some p') (hs : SlR w' v' L')
    (hn : ∀ k, (factB v' L').fp k → w.heap.size ≤ k ∨ (factB v L).fp k) : OkW cx (m.set i (b, p')) (factR v' L' :: fs) w' := by
  have hk : (m.set i (b, p')).map (·.1) = m.map (·.1) := nodup_set hi
  have hbm : b ∈ m.map (·.1) := List.mem_map.2 ⟨_, List.mem_of_getElem? hi, rfl⟩
  have h1 := (h.sub (List.Sublist.refl _) (fun f hf => List.mem_cons_of_mem _ hf) (fs' := fs)).set hi hfr hb
  refine ⟨h1.mem, h1.dis, h1.may, fun f hf => ?_, h1.fr⟩
  rcases List.mem_cons.1 hf with rfl | hf
  · refine ⟨hs, fun k hk2 => ⟨factB_lt hs.toB k hk2, fun hm => ?_⟩⟩
    rw [hk] at hm
    rcases hn k hk2 with h2 | h2
    · have := h.lt hm
      omega
    · exact ((h.facts _ (List.mem_cons_self ..)).2 k h2).2 hm
  · exact h1.facts f hf
theorem LP_out {x : Operand} {args : Array Operand} {at_ : Array TypeId} {f : FuncId} {first cap : Array Value} {vs : List Value} {d b : Nat} {T S : TypeId} {v : Value} {L : List Int} {fs : List Fact} {r : Except Int (List Int)} {p : Obj} (i : Nat) (hg : o.guard = none) (ho : o.op = .call { callee := .value x, args := args, argTypes := at_ })
    (hd : o.dst = some d) (hlt : Nat.blt d cx.nt = true) (hx : ev st.env x = some (.func (.func f) first cap)) (hv : evs st.env args.toList = some vs) (hf : Txt cx.P f) (hi : st.mem[i]? = some (b, p)) (hfs : st.facts = factR v L :: fs)
    (hc : ∀ w, OkW cx st.mem st.facts w → Calls cx.P f (first ++ vs.toArray ++ cap) w (OutP T S w b v L r))
    (herr : ∀ k, r = .error k → Kx (.panic [stp S k]) { st with mem := [], facts := [] })
    (hok : ∀ M a n c, r = .ok M → n ≤ c → (∀ v0 L0, Nw cx.w0 v0 L0 v L → Nw cx.w0 v0 L0 (.slice a n c) (L ++ M)) → LP cx ops Kx rest { st with env := (d, .tuple #[]) :: st.env, mem := st.mem.set i (b, row T [.slice a n c]), facts := factR (.slice a n c) (L ++ M) :: fs }) : LP cx ops Kx (o :: rest) st := by
  refine LP_call hg ho hx hv hf fun w hw => (hc w hw).mono ?_
  rintro e w' ⟨hfr, hR⟩
  have hbm : b ∈ st.mem.map (·.1) := List.mem_map.2 ⟨_, List.mem_of_getElem? hi, rfl⟩
  cases r with
  | error k =>
    simp only at hR
    subst hR
    exact .inr ⟨_, [], [], rfl, hw.step hfr (by simpa using hbm) (by simp) (by simp) (by simp), herr k rfl⟩
  | ok M =>
    obtain ⟨rfl, a, n, c, hb, hs, hnc, hn⟩ := hR
    rw [hfs] at hw
    refine .inl ⟨_, _, _, rfl, hw.out hi hfr hb hs hn, ?_⟩
    rw [hd]
    refine ⟨hlt, hok M a n c rfl hnc fun v0 L0 h k hk => ?_⟩
    rcases hn k hk with h1 | h1
    · exact .inl (Nat.le_trans hw.fr.size h1)
    · exact h k h1
/-- A row of one's own is only read from now on. -/
theorem OkW.toFact {m : Mem} {fs : List Fact} {w : World} {g n : Nat} {U : TypeId} {l : List Int} {r : List Value} (h : OkW cx (m ++ [(g, row U (dg l ++ r))]) fs w) (hl : l.length = n) (c : Nat) : OkW cx m (factB (.slice (some ⟨g, 0, none⟩) n c) l :: fs) w := by
  have h1 := h.sub (List.sublist_append_left _ _) (fun f hf => hf)
  have hat : (m ++ [(g, row U (dg l ++ r))])[m.length]? = some (g, row U (dg l ++ r)) := by rw [List.getElem?_append_right (Nat.le_refl _), Nat.sub_self]; rfl
  refine ⟨h1.mem, h1.dis, h1.may, fun f hf => ?_, h1.fr⟩
  rcases List.mem_cons.1 hf with rfl | hf
  · have hs : SlB w (.slice (some ⟨g, 0, none⟩) n c) l := SlB.of_own h hat hl c
    refine ⟨hs, fun k hk => ⟨factB_lt hs k hk, ?_⟩⟩
    obtain ⟨_, off, n', c', e⟩ := hk
    simp only [Value.slice.injEq, Option.some.injEq, Addr.mk.injEq] at e
    obtain ⟨⟨rfl, _⟩, _⟩ := e
    have := h.dis
    rw [List.map_append, List.nodup_append] at this
    intro hm
    exact this.2.2 _ hm _ (by simp) rfl
  · exact h1.facts f hf
theorem L_toFact {l : List Oper} (m : Mem) {g n c : Nat} {U : TypeId} {d : List Int} {r : List Value} (hm : st.mem = m ++ [(g, row U (dg d ++ r))]) (hl : d.length = n) (h : (cx.w0.heap.size ≤ g ∨ g ∈ cx.mods) → (g ∉ m.map (·.1)) → L cx ops K l { st with mem := m, facts := factB (.slice (some ⟨g, 0, none⟩) n c) d :: st.facts }) : L cx ops K l st := by
  intro Q a w ho hk
  have hw := ho.w
  rw [hm] at hw
  refine h (hw.may g (by simp)) ?_ Q a w ⟨ho.a, hw.toFact hl c⟩ hk
  have := hw.dis
  rw [List.map_append, List.nodup_append] at this
  intro hm
  exact this.2.2 _ hm _ (by simp) rfl
theorem OkW.toFactR {m : Mem} {fs : List Fact} {w : World} {g n c : Nat} {l : List Int} {r : List Value} (h : OkW cx (m ++ [(g, row 5 (dg l ++ r))]) fs w) (hl : l.length = n) (hne : l ≠ []) (hc : n ≤ c) (hr : r.length = c - n) : OkW cx m (factR (.slice (some ⟨g, 0, none⟩) n c) l :: fs) w := by
  have hat : (m ++ [(g, row 5 (dg l ++ r))])[m.length]? = some (g, row 5 (dg l ++ r)) := by rw [List.getElem?_append_right (Nat.le_refl _), Nat.sub_self]; rfl
  have h1 := h.toFact hl c
  refine ⟨h1.mem, h1.dis, h1.may, fun f hf => ?_, h1.fr⟩
  rcases List.mem_cons.1 hf with rfl | hf
  · exact ⟨SlR.of_own h hat hl hne hc hr, (h1.facts _ (List.mem_cons_self ..)).2⟩
  · exact h1.facts f (List.mem_cons_of_mem _ hf)
theorem L_toFactR {l : List Oper} (m : Mem) {g n c : Nat} {d : List Int} {r : List Value} (hm : st.mem = m ++ [(g, row 5 (dg d ++ r))]) (hl : d.length = n) (hne : d ≠ []) (hc : n ≤ c) (hr : r.length = c - n) (h : (cx.w0.heap.size ≤ g ∨ g ∈ cx.mods) → (g ∉ m.map (·.1)) → L cx ops K l { st with mem := m, facts := factR (.slice (some ⟨g, 0, none⟩) n c) d :: st.facts }) : L cx ops K l st := by
  intro Q a w ho hk
  have hw := ho.w
  rw [hm] at hw
  refine h (hw.may g (by simp)) ?_ Q a w ⟨ho.a, hw.toFactR hl hne hc hr⟩ hk
  have := hw.dis
  rw [List.map_append, List.nodup_append] at this
  intro hm
  exact this.2.2 _ hm _ (by simp) rfl
theorem SlC.apartI {w : World} {a : Option Addr} {n c : Nat} {xs : List Int} {k : IntKind} {b : Nat} {T : TypeId} {v : Value} {l : List Value} (h : SlC 1 w (.slice a n c) n (xs.map (Value.int k))) (hb : w.heap[b]? = some (row T (v :: l))) (hl : ∀ u ∈ v :: l, ∀ x, u ≠ .int k x) : ∀ j, (factC 1 (.slice a n c) n (xs.map (Value.int k))).fp j → j ≠ b := by
  rintro j ⟨hne, off, n', c', e⟩ rfl
  simp only [Value.slice.injEq] at e
  obtain ⟨rfl, rfl, rfl⟩ := e
  cases xs with
  | nil => exact hne rfl
  | cons x xs =>
    obtain ⟨b', off', e', hc⟩ := h.cell (j := 0) (x := .int k x) rfl
    simp only [Option.some.injEq, Addr.mk.injEq] at e'
    obtain ⟨rfl, rfl, _⟩ := e'
    simp only [World.cell?, hb] at hc
    have hm : Value.int k x ∈ v :: l := by
      simp only [Nat.add_zero, List.getElem?_toArray, if_true] at hc
      exact List.mem_of_getElem? hc
    exact hl _ hm x rfl
theorem okM {P : Program} {w : World} {nt : Nat} {b : Nat} {p : Obj} {fs : List Fact} (hb : w.heap[b]? = some p) (hf : ∀ f ∈ fs, f.p w ∧ ∀ k, f.fp k → k < w.heap.size ∧ k ≠ b) : OkW { P := P, w0 := w, nt := nt, mods := [b] } [(b, p)] fs w := okM1 hb hf
end
end Go.Sx
