/- More rules: parts of arrays, a word's complement, tables that the program's text lays, calls without a result. -/
import Derived.Test.YtejhcdjfcopphaaDoorShaPure
set_option linter.unusedVariables false
set_option linter.unusedSimpArgs false
namespace Go.Sx
section
variable {cx : Cx} {o : Oper} {ops : Array Oper} {K : St → Prop} {rest : List Oper} {st : St}
theorem V_sliceArrS {t e : TypeId} {x : Operand} {lo hi : Option Operand} {n sz b off l h : Nat} {v : Value} (ho : o.op = .slice t x lo hi none) (hx : ev st.env x = some (.pointer (some ⟨b, off, none⟩))) (hu : cx.P.underlying t = some (.array n e)) (hz : (cx.P.info? e).map (·.size) = some sz)
    (hl : Bd st.env lo 0 l) (hh : Bd st.env hi n h) (h1 : l ≤ h) (h2 : h ≤ n) (hv : Value.slice (some (if n = l then ⟨b, off, none⟩ else ⟨b, off + l * sz, none⟩)) (h - l) (n - l) = v) : V cx o st v :=
  ⟨nd ho (fun c h => by cases h), fun a w hok => by
    subst hv
    unfold execOp; rw [ho]
    have hb : (Instr.sliceBounds false n n (lo.map a.eval) (hi.map a.eval) none).run cx.P w = .ok (l, h, n) w := by
      unfold Bd at hl hh
      cases hi with
      | none =>
        simp only at hh
        subst hh
        cases lo with
        | none => simp only at hl; subst hl; simp [Instr.sliceBounds]
        | some xl => obtain ⟨k, hk⟩ := hl; simp [Instr.sliceBounds, hok.a.ev hk, run_sliceBound (P := cx.P) w k l h .sliceB (by omega) (by omega)]
      | some xh =>
        obtain ⟨kh, hkh⟩ := hh
        have e1 := run_sliceBound (P := cx.P) w kh h n .sliceAlen (by omega) (by omega)
        cases lo with
        | none => simp only at hl; subst hl; simp [Instr.sliceBounds, hok.a.ev hkh, e1]
        | some xl => obtain ⟨k, hk⟩ := hl; simp [Instr.sliceBounds, hok.a.ev hkh, e1, hok.a.ev hk, run_sliceBound (P := cx.P) w k l h .sliceB (by omega) (by omega)]
    simp only [hok.a.ev hx, Option.map_none, Instr.sliceAt, Instr.sureAddr, Sem.run_bind, run_underlying hu, Result.andThen_ok, Sem.run_pure, hb, run_sizeOf hz, add_at]⟩
theorem V_indexA {t : TypeId} {x y : Operand} {e : TypeId} {d : TypeDesc} {cs : List Value} {k : IntKind} {n : Int} {len sz : Nat} {v : Value} (ho : o.op = .index t x y) (hx : ev st.env x = some (.agg cs.toArray)) (hy : ev st.env y = some (.int k n)) (hu : cx.P.underlying t = some (.array len e)) (hz : (cx.P.info? e).map (·.size) = some sz)
    (hd : cx.P.underlying e = some d) (hs : scalarB d = true) (h0 : 0 ≤ n) (h1 : n < len) (hv : cs[n.toNat * sz]? = some v) : V cx o st v :=
  ⟨nd ho (fun c h => by cases h), fun a w h => by
    unfold execOp; rw [ho]
    simp only [h.a.ev hx, h.a.ev hy, Instr.index, asIntOf, Sem.run_bind, Sem.run_pure, Result.andThen_ok, run_underlying hu]
    rw [if_pos ⟨h0, h1⟩]
    simp only [Sem.run_bind, run_sizeOf hz, Result.andThen_ok, run_part1 hd hs hv, Sem.run_pure]⟩
theorem V_com {t : TypeId} {x : Operand} {k : IntKind} {n r : Int} (ho : o.op = .unOp .xor t x) (hx : ev st.env x = some (.int k n)) (hr : bits2 .xor k (if k.signed then -1 else k.max) n = r) : V cx o st (.int k r) :=
  ⟨nd ho (fun c h => by cases h), fun a w h => by
    subst hr
    unfold execOp; rw [ho]
    simp only [h.a.ev hx, Op.unary]
    simp [Op.intBits, bits2]⟩

/-! ### A table of words -/
def TabK (K : List Wd) (g : Nat) (w : World) : Prop := ∀ t, t < 64 → w.cell? ⟨g, t, none⟩ = some (wv (K.getD t 0))
theorem TabK.lt {K : List Wd} {g : Nat} {w : World} (h : TabK K g w) : g < w.heap.size := World.block_lt_of_cell? w _ (h 0 (by omega))
theorem TabK.fr {K : List Wd} {g : Nat} {mods : List Nat} {w w' : World} (h : TabK K g w) (hf : Fr mods w w') (hm : g ∉ mods) : TabK K g w' := fun t ht => by
  rw [World.cell?_of_block (w := w) (hf.block g h.lt hm)]
  exact h t ht
theorem TabK.later {K : List Wd} {g : Nat} {m : Mem} {fs : List Fact} {w : World} (h : OkW cx m fs w) (hm : g ∉ cx.mods) (hu : TabK K g cx.w0) : TabK K g w := hu.fr h.fr hm

/-! ### A call that hands back nothing, and turns one block of the call's own -/
theorem L_callM {x : Operand} {args : Array Operand} {at_ : Array TypeId} {f : FuncId} {cap : Array Value} {vs : List Value} {b : Nat} {p p' : Obj} {v : Value} (i : Nat) (hg : o.guard = none) (ho : o.op = .call { callee := .value x, args := args, argTypes := at_ })
    (hx : ev st.env x = some (.func (.func f) #[] cap)) (hv : evs st.env args.toList = some vs) (hf : Txt cx.P f) (hi : st.mem[i]? = some (b, p))
    (hc : ∀ w, OkW cx st.mem st.facts w → Calls cx.P f (vs.toArray ++ cap) w fun e w' => e = .returned v ∧ Fr [b] w w' ∧ w'.heap[b]? = some p')
    (h : match o.dst with
       | some d => Nat.blt d cx.nt = true ∧ L cx ops K rest { st with env := (d, v) :: st.env, mem := st.mem.set i (b, p') }
       | none => L cx ops K rest { st with mem := st.mem.set i (b, p') }) : L cx ops K (o :: rest) st :=
  L_call hg ho hx hv hf fun w hw => (hc w hw).mono fun e w' ⟨he, hfr, hb⟩ => ⟨v, _, st.facts, he, hw.set hi hfr hb, h⟩
theorem V_loadWF {t : TypeId} {x : Operand} {d : TypeDesc} {b : Nat} {l : List Value} {T : TypeId} (ho : o.op = .load t x) (hx : ev st.env x = some (.pointer (some ⟨b, 0, none⟩))) (hu : cx.P.underlying t = some d) (hs : scalarB d = false) (hb : ∀ w, OkW cx st.mem st.facts w → w.heap[b]? = some (row T l)) (hz : (cx.P.info? t).map (·.size) = some l.length) : V cx o st (.agg l.toArray) :=
  V_loadN ho hx hu hs hz fun w hw j v hv => cell_of (hb w hw) (by simpa using hv)
theorem OkW.ne {m : Mem} {fs : List Fact} {w : World} (h : OkW cx m fs w) {i j b1 b2 : Nat} {o1 o2 : Obj} (hi : m[i]? = some (b1, o1)) (hj : m[j]? = some (b2, o2)) (hij : i ≠ j) : b1 ≠ b2 := fun e => by
  subst e
  exact hij (key_unique h.dis hi hj)
theorem OkW.ge {m : Mem} {fs : List Fact} {w : World} (h : OkW cx m fs w) (hm : cx.mods = []) {i b : Nat} {p : Obj} (hi : m[i]? = some (b, p)) : cx.w0.heap.size ≤ b := by
  have := h.may b (List.mem_map.2 ⟨_, List.mem_of_getElem? hi, rfl⟩)
  rw [hm] at this
  simpa using this
theorem apB {b1 b2 : Nat} {n c : Nat} {l : List Int} (h : b1 ≠ b2) : ∀ k, (factB (.slice (some ⟨b1, 0, none⟩) n c) l).fp k → k ≠ b2 := by
  rintro k ⟨_, off, n', c', e⟩
  simp only [Value.slice.injEq, Option.some.injEq, Addr.mk.injEq] at e
  rw [← e.1.1]
  exact h
theorem apF {w : World} {v : Value} {l : List Int} {b : Nat} (h : SlB w v l) (hb : w.heap.size ≤ b) : ∀ k, (factB v l).fp k → k ≠ b := fun k hk e => by
  have := factB_lt h k hk
  omega
/-- A literal's bytes are marked. -/
theorem S_mark {K : St → Prop} {t e : TypeId} {x : Operand} (i : Nat) {b off n c d : Nat} {l : List Value} {T : TypeId} (ho : o.op = .convert t t x) (hd : o.dst = some d) (hlt : Nat.blt d cx.nt = true) (hx : ev st.env x = some (.slice (some ⟨b, off, none⟩) n c)) (ht : cx.P.underlying t = some (.slice e)) (he : cx.P.underlying e = some (.int .u8)) (hi : st.mem[i]? = some (b, row T l))
    (h : K { st with env := (d, .slice (some ⟨b, off, none⟩) n c) :: st.env, mem := st.mem.set i (b, .cells l.toArray T (l.length, l.length + 1)) }) : S cx o K st := by
  intro Q next a w hok hk
  have hw := hok.w.at hi
  have hsh : w.shape? b = some (T, l.length) := by
    unfold World.shape?
    rw [hw]
    rfl
  have hr : (convert t t (.slice (some ⟨b, off, none⟩) n c)).run cx.P w = .ok (.slice (some ⟨b, off, none⟩) n c) (w.freeze ⟨b, l.length, none⟩ 1) := by
    simp [convert, run_underlying ht, run_underlying he, markStringish, hsh]
  have hnew : (w.freeze ⟨b, l.length, none⟩ 1).heap[b]? = some (.cells l.toArray T (l.length, l.length + 1)) := by
    unfold World.freeze
    rw [if_neg (by decide)]
    show (Array.modify _ _ _)[b]? = _
    rw [Array.getElem?_modify, if_pos rfl, hw]
    rfl
  have hfr : Fr [b] w (w.freeze ⟨b, l.length, none⟩ 1) := by
    unfold World.freeze
    rw [if_neg (by decide)]
    refine ⟨rfl, rfl, rfl, by simp, fun k hk hm => ?_⟩
    show (Array.modify _ _ _)[k]? = _
    rw [Array.getElem?_modify, if_neg (fun e => hm (by simp; exact e.symm))]
  refine wpIn_value (nd ho (fun c h => by cases h)) (w' := w.freeze ⟨b, l.length, none⟩ 1) (v := .slice (some ⟨b, off, none⟩) n c) ?_ ?_
  · unfold execOp; rw [ho]
    simp only [hok.a.ev hx, Sem.run_bind, hr, Result.andThen_ok, Sem.run_pure]
  · rw [hd]
    exact hk _ _ _ ⟨hok.a.put hlt _, hok.w.set hi hfr hnew⟩ h
theorem SlB.ofM {m : Mem} {fs : List Fact} {w : World} {e : TypeId} {q : OwnR} {n : Nat} {l : List Int} {ks : List Value} (h : OkW cx m fs w) (hm : ∀ p ∈ ownM e q ks, p ∈ m) (hq : OwnC 1 q n ks) (hk : ks = dg l) : SlB w (ownV q n) l := by
  subst hk
  have hl := hq.len
  rw [dg_length, Nat.mul_one] at hl
  cases q with
  | none => exact .inl ⟨List.eq_nil_of_length_eq_zero (by rw [hl]; exact hq.1), none, 0, by rw [hq.1]; rfl⟩
  | some q =>
    obtain ⟨b, c, r⟩ := q
    exact SlB.in (T := e) (r := r) (fz := (0, 0)) h (hm _ (by simp [ownM])) hl c
end
end Go.Sx
