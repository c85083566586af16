/- More rules: an element's place where the row is no nil; a store into a row of one's own; a map's number; a range over a map. -/
import Derived.Test.YtcbpgnjlbbjieaaDoorSx18
import Derived.Test.YtcbpgnjlbbjieaaDoorSx20
import Derived.Maps.RangeRun
set_option linter.unusedVariables false
set_option linter.unusedSimpArgs false
namespace Go.Sx
open Go
section
variable {cx : Cx} {o : Oper} {st : St} {ops : Array Oper} {K : St → Prop} {rest : List Oper}
theorem V_indexN {t e : TypeId} {x y : Operand} {k : IntKind} {n cap size : Nat} {a : Option Addr} {i : Int} (ho : o.op = .indexAddr t x y) (hx : ev st.env x = some (.slice a n cap)) (hy : ev st.env y = some (.int k i))
    (hu : cx.P.underlying t = some (.slice e)) (hz : (cx.P.info? e).map (·.size) = some (size + 1)) (ha : ∃ b off, a = some ⟨b, off, none⟩) (h0 : 0 ≤ i) (h1 : i < n) : V cx o st (.pointer (a.map (·.add (i.toNat * (size + 1))))) :=
  ⟨nd ho (fun c h => by cases h), fun a' w h => by
    obtain ⟨b, off, rfl⟩ := ha
    unfold execOp; rw [ho]
    simp only [h.a.ev hx, h.a.ev hy, Instr.indexAt, asIntOf, Instr.sureAddr, Sem.run_bind, Sem.run_pure, Result.andThen_ok, run_underlying hu]
    rw [if_pos ⟨h0, h1⟩]
    simp only [Sem.run_bind, run_sizeOf hz, Result.andThen_ok, Sem.run_pure, Option.map_some]⟩
theorem PC.at {sz n : Nat} {q : OwnP} {ks : List Value} (h : PC sz q n ks) (hn : 0 < n) : ∃ b off, pA q = some ⟨b, off, none⟩ := by
  rcases q with _ | ⟨g, pre, c, r⟩
  · have := h.1
    omega
  · exact ⟨g, pre.length, rfl⟩
theorem PC.set {sz n : Nat} {q : OwnP} {ks : List Value} (h : PC sz q n ks) (j : Nat) (v : Value) : PC sz q n (ks.set j v) := by
  rcases q with _ | ⟨g, pre, c, r⟩
  · exact ⟨h.1, by rw [h.2]; rfl⟩
  · exact ⟨by rw [List.length_set]; exact h.1, h.2⟩
theorem set_mid (pre ks r : List Value) (j : Nat) (v : Value) (hj : j < ks.length) : (pre ++ (ks ++ r)).set (pre.length + j) v = pre ++ (ks.set j v ++ r) := by
  rw [List.set_append_right _ _ (by omega), show pre.length + j - pre.length = j by omega, List.set_append_left _ _ hj]
/-- A store of one cell into a row of one's own. -/
theorem S_storeP {t e : TypeId} {x y : Operand} (m1 m2 : Mem) (q : OwnP) (ks : List Value) {sz n j : Nat} {v : Value} (ho : o.op = .store t x y) (hd : o.dst = none) (hx : ev st.env x = some (.pointer ((pA q).map (·.add j)))) (hy : ev st.env y = some v)
    (hm : st.mem = m1 ++ (pM e q ks ++ m2)) (hq : PC sz q n ks) (hj : j < ks.length) (h1 : v.oneCell' = true) (hz : (cx.P.info? t).map (·.size) = some 1)
    (h : K { st with mem := m1 ++ (pM e q (ks.set j v) ++ m2) }) : S cx o K st := by
  rcases q with _ | ⟨g, pre, c, r⟩
  · rw [hq.2] at hj
    cases hj
  · have hx' : ev st.env x = some (.pointer (some ⟨g, pre.length + j, none⟩)) := by rw [hx]; show some (Value.pointer (some (Addr.add _ j))) = _; rw [add_at]
    have hi : st.mem[m1.length]? = some (g, row e (pre ++ (ks ++ r))) := by
      rw [hm, List.getElem?_append_right (Nat.le_refl _), Nat.sub_self]
      rfl
    refine S_store1 m1.length ho hd hx' hy hi h1 hz (by rw [List.length_append, List.length_append]; omega) (set_mid pre ks r j v hj) ?_
    have e1 : st.mem.set m1.length (g, row e (pre ++ (ks.set j v ++ r))) = m1 ++ (pM e (some (g, pre, c, r)) (ks.set j v) ++ m2) := by
      rw [hm, List.set_append_right _ _ (Nat.le_refl _), Nat.sub_self]
      rfl
    rw [e1]
    exact h
/-- m[k] -/
theorem run_lookup1 {P : Program} {w : World} {t kt et : TypeId} {b clock : Nat} {es : Array MapEntry} {L : List Nm} (k : ByteArray) (ht : P.underlying t = some (.map kt et)) (hk : P.underlying kt = some .string) (hz : (P.info? et).bind (·.zero) = some (.int .i64 0)) (hb : w.heap[b]? = some (.map es clock)) (hm : MapIs es clock L) :
    (Instr.lookup t (.map (some b)) (.string k) false).run P w = .ok (.int .i64 ((getN L k).getD 0 : Nat)) w := by
  have hzv : (zeroValue et).run P w = .ok (.int .i64 0) w := by
    cases hq : P.info? et with
    | none => simp [hq] at hz
    | some i =>
      have hz' : i.zero = some (.int .i64 0) := by simpa [hq] using hz
      simp [zeroValue, typeInfo, hq, hz']
  unfold Instr.lookup
  simp only [Sem.run_bind, run_underlying ht, Result.andThen_ok, run_getMap hb, Sem.run_pure, run_checkKey_str hk]
  rcases findNow_str k L es.toList 0 hm.en with ⟨h1, h2, _⟩ | ⟨L1, L2, v, _, _, h1, h2⟩
  · simp only [run_findKey_str hk h2, Result.andThen_ok, hzv, Sem.run_bind, Sem.run_pure, h1]
    rfl
  · simp only [run_findKey_str hk h2, Result.andThen_ok, Sem.run_bind, Sem.run_pure, h1]
    rfl
theorem V_lookupF {t kt et : TypeId} {x y : Operand} {b clock : Nat} {es : Array MapEntry} {L : List Nm} {k : ByteArray} {r : Option Nat} (ho : o.op = .lookup t x y true) (hx : ev st.env x = some (.map (some b))) (hy : ev st.env y = some (.string k)) (ht : cx.P.underlying t = some (.map kt et)) (hk : cx.P.underlying kt = some .string)
    (hz : (cx.P.info? et).bind (·.zero) = some (.int .i64 0)) (hb : ∀ w, OkW cx st.mem st.facts w → w.heap[b]? = some (.map es clock)) (hm : MapIs es clock L) (hr : getN L k = r) : V cx o st (.tuple #[.int .i64 (r.getD 0 : Nat), .bool r.isSome]) :=
  ⟨nd ho (fun c h => by cases h), fun a w h => by
    subst hr
    unfold execOp; rw [ho]
    simp only [h.a.ev hx, h.a.ev hy, Sem.run_bind, run_lookupN k ht hk hz (hb w h.w) hm, Result.andThen_ok, Sem.run_pure]⟩
theorem V_lenF {t kt et : TypeId} {x : Operand} {b clock n : Nat} {es : Array MapEntry} {L : List Nm} (ho : o.op = .call { callee := .builtin .len, args := #[x], argTypes := #[t] }) (hx : ev st.env x = some (.map (some b))) (ht : cx.P.underlying t = some (.map kt et)) (hb : ∀ w, OkW cx st.mem st.facts w → w.heap[b]? = some (.map es clock)) (hm : MapIs es clock L) (hn : L.length = n) : V cx o st (.int .i64 n) :=
  V_builtin ho (vs := [.map (some b)]) (by simp [evs, hx]) fun cs w hw => by
    simp [builtin, Builtin.len_, run_underlying ht, run_getMap (hb w hw), goInt, hm.size, Result.andThen, hn]
theorem V_lookup1 {t kt et : TypeId} {x y : Operand} {b clock : Nat} {es : Array MapEntry} {L : List Nm} {k : ByteArray} (i : Nat) (ho : o.op = .lookup t x y false) (hx : ev st.env x = some (.map (some b))) (hy : ev st.env y = some (.string k)) (ht : cx.P.underlying t = some (.map kt et)) (hk : cx.P.underlying kt = some .string)
    (hz : (cx.P.info? et).bind (·.zero) = some (.int .i64 0)) (hi : st.mem[i]? = some (b, .map es clock)) (hm : MapIs es clock L) {r : Nat} (hr : (getN L k).getD 0 = r) : V cx o st (.int .i64 r) :=
  ⟨nd ho (fun c h => by cases h), fun a w h => by
    unfold execOp; rw [ho]
    simp only [h.a.ev hx, h.a.ev hy, Sem.run_bind, run_lookup1 k ht hk hz (h.w.at hi) hm, hr, Result.andThen_ok, Sem.run_pure]⟩
theorem L_mapUpdate {t kt et : TypeId} {x y z : Operand} {b clock v : Nat} {es : Array MapEntry} {L0 : List Nm} {k : ByteArray} (i : Nat) (hg : o.guard = none) (ho : o.op = .mapUpdate t x y z) (hd : o.dst = none) (hx : ev st.env x = some (.map (some b))) (hy : ev st.env y = some (.string k)) (hv : ev st.env z = some (.int .i64 v))
    (ht : cx.P.underlying t = some (.map kt et)) (hk : cx.P.underlying kt = some .string) (hi : st.mem[i]? = some (b, .map es clock)) (hm : MapIs es clock L0) (h : ∀ es' clock', MapIs es' clock' (putN L0 k v) → L cx ops K rest { st with mem := st.mem.set i (b, .map es' clock') }) : L cx ops K (o :: rest) st :=
  L_cons hg (S_mapUpdate i ho hd hx hy hv ht hk hi hm h)
theorem L_delete {args : Array Operand} {t kt et : TypeId} {b clock : Nat} {es : Array MapEntry} {L0 : List Nm} {k : ByteArray} (i : Nat) (hg : o.guard = none) (ho : o.op = .call { callee := .builtin .delete, args := args, argTypes := #[t, kt] }) (hd : o.dst = none) (hv : evs st.env args.toList = some [.map (some b), .string k])
    (ht : cx.P.underlying t = some (.map kt et)) (hk : cx.P.underlying kt = some .string) (hi : st.mem[i]? = some (b, .map es clock)) (hm : MapIs es clock L0) (h : ∀ es', MapIs es' clock (delN L0 k) → L cx ops K rest { st with mem := st.mem.set i (b, .map es' clock) }) : L cx ops K (o :: rest) st :=
  L_cons hg (S_delete i ho hd hv ht hk hi hm h)
/-- A literal's bytes are marked. -/
theorem S_markD {K : St → Prop} {t e : TypeId} {x : Operand} (i : Nat) {b off n c d : Nat} {l : List Value} {T : TypeId} (ho : o.op = .convert t t x) (hd : o.dst = some d) (hlt : Nat.blt d cx.nt = true) (hx : ev st.env x = some (.slice (some ⟨b, off, none⟩) n c)) (ht : cx.P.underlying t = some (.slice e)) (he : cx.P.underlying e = some (.int .u8)) (hi : st.mem[i]? = some (b, row T l))
    (h : K { st with env := (d, .slice (some ⟨b, off, none⟩) n c) :: st.env, mem := st.mem.set i (b, .cells l.toArray T (l.length, l.length + 1)) }) : S cx o K st := by
  intro Q next a w hok hk
  have hw := hok.w.at hi
  have hsh : w.shape? b = some (T, l.length) := by
    unfold World.shape?
    rw [hw]
    rfl
  have hr : (convert t t (.slice (some ⟨b, off, none⟩) n c)).run cx.P w = .ok (.slice (some ⟨b, off, none⟩) n c) (w.freeze ⟨b, l.length, none⟩ 1) := by
    simp [convert, run_underlying ht, run_underlying he, markStringish, hsh]
  have hnew : (w.freeze ⟨b, l.length, none⟩ 1).heap[b]? = some (.cells l.toArray T (l.length, l.length + 1)) := by
    unfold World.freeze
    rw [if_neg (by decide)]
    show (Array.modify _ _ _)[b]? = _
    rw [Array.getElem?_modify, if_pos rfl, hw]
    rfl
  have hfr : Fr [b] w (w.freeze ⟨b, l.length, none⟩ 1) := by
    unfold World.freeze
    rw [if_neg (by decide)]
    refine ⟨rfl, rfl, rfl, by simp, fun k hk hm => ?_⟩
    show (Array.modify _ _ _)[k]? = _
    rw [Array.getElem?_modify, if_neg (fun e => hm (by simp; exact e.symm))]
  refine wpIn_value (nd ho (fun c h => by cases h)) (w' := w.freeze ⟨b, l.length, none⟩ 1) (v := .slice (some ⟨b, off, none⟩) n c) ?_ ?_
  · unfold execOp; rw [ho]
    simp only [hok.a.ev hx, Sem.run_bind, hr, Result.andThen_ok, Sem.run_pure]
  · rw [hd]
    exact hk _ _ _ ⟨hok.a.put hlt _, hok.w.set hi hfr hnew⟩ h
/-! ### A range over a map -/
/-- These are left. -/
def LeftE (es : Array MapEntry) (seen : Array Nat) (l : List Nm) : Prop := (leftOf es seen).toList.map (fun e => (e.key, e.val)) = l.map mE
/-- This one is looked at. -/
def CurE (es : Array MapEntry) (seen : Array Nat) (p : Nm) : Prop := ∃ e ∈ es.toList, ∃ s0 : Array Nat, seen = s0.push e.born ∧ e.key = .string p.1 ∧ e.val = .int .i64 p.2
theorem LeftE.start {es : Array MapEntry} {clock : Nat} {l : List Nm} (h : MapIs es clock l) : LeftE es #[] l := by
  unfold LeftE leftOf
  rw [show (es.filter fun e => !(#[] : Array Nat).contains e.born) = es from Array.filter_eq_self.2 (fun x _ => by simp)]
  exact h.en
theorem leftOf_push (es : Array MapEntry) (seen : Array Nat) (b : Nat) : leftOf es (seen.push b) = (leftOf es seen).filter fun e => decide (e.born ≠ b) := by
  unfold leftOf
  rw [Array.filter_filter]
  congr 1
  funext e
  simp only [Array.contains_push, Bool.not_or, ne_eq, decide_not]
  rw [Bool.and_comm]
  congr 1
theorem L_range {t kt et : TypeId} {x : Operand} {b clock d : Nat} {es : Array MapEntry} (i : Nat) (hg : o.guard = none) (ho : o.op = .range t x) (hd : o.dst = some d) (hlt : Nat.blt d cx.nt = true) (hx : ev st.env x = some (.map (some b))) (ht : cx.P.underlying t = some (.map kt et)) (hi : st.mem[i]? = some (b, .map es clock))
    (h : ∀ r, L cx ops K rest { st with env := (d, .pointer (some ⟨r, 0, none⟩)) :: st.env, mem := st.mem ++ [(r, .mapIter (some b) clock #[] clock)] }) : L cx ops K (o :: rest) st := by
  refine L_cons hg fun Q next a w hok hk => ?_
  have hr : (execOp a.eval o).run cx.P w = .ok (.value (.pointer (some ⟨w.heap.size, 0, none⟩))) (w.alloc (.mapIter (some b) clock #[] clock)) := by
    unfold execOp; rw [ho]
    simp only [hok.a.ev hx, Sem.run_bind, run_range_map w t kt et b es clock ht (hok.w.at hi), Result.andThen_ok, Sem.run_pure]
  exact wpIn_value (nd ho (fun c h => by cases h)) hr (by rw [hd]; exact hk _ _ _ ⟨hok.a.put hlt _, hok.w.alloc _⟩ (h _))
theorem V_entry {x : Operand} {r b since : Nat} {seen : Array Nat} {es : Array MapEntry} {clock : Nat} {l : List Nm} {p : Nm} (i j : Nat) (ho : o.op = .entry x) (hx : ev st.env x = some (.pointer (some ⟨r, 0, none⟩))) (hi : st.mem[i]? = some (b, .map es clock)) (hj : st.mem[j]? = some (r, .mapIter (some b) since seen clock))
    (hm : MapIs es clock l) (hc : CurE es seen p) : V cx o st (.tuple #[.string p.1, .int .i64 p.2]) :=
  ⟨nd ho (fun c h => by cases h), fun a w h => by
    obtain ⟨e, he, s0, rfl, hk, hv⟩ := hc
    unfold execOp; rw [ho]
    simp only [h.a.ev hx, Sem.run_bind, run_entry_at w r b since s0 es clock e (h.w.at hj) (h.w.at hi) he hm.born, Result.andThen_ok, Sem.run_pure, hk, hv]⟩
theorem LeftE.nil {es : Array MapEntry} {seen : Array Nat} {l : List Nm} (h : LeftE es seen l) (h0 : (leftOf es seen).size = 0) : l = [] := by
  unfold LeftE at h
  have : (leftOf es seen).toList = [] := List.length_eq_zero_iff.1 (by simpa using h0)
  rw [this] at h
  simpa using h.symm
theorem filter_ne {α : Type} (f : α → Nat) : ∀ (a c : List α) (e : α), ((a ++ e :: c).map f).Nodup → (a ++ e :: c).filter (fun x => decide (f x ≠ f e)) = a ++ c := by
  intro a c e hn
  rw [List.map_append, List.map_cons, List.nodup_append, List.nodup_cons] at hn
  obtain ⟨_, ⟨h2, _⟩, h3⟩ := hn
  rw [List.filter_append, List.filter_cons_of_neg (by simp)]
  congr 1
  · exact List.filter_eq_self.2 fun p hp => by simpa using h3 (f p) (List.mem_map.2 ⟨p, hp, rfl⟩) (f e) (List.mem_cons_self ..)
  · exact List.filter_eq_self.2 fun p hp => by
      have h5 : f p ≠ f e := fun h => h2 (h ▸ List.mem_map.2 ⟨p, hp, rfl⟩)
      simpa using h5
theorem LeftE.step {es : Array MapEntry} {clock : Nat} {seen : Array Nat} {l L0 : List Nm} (h : LeftE es seen l) (hm : MapIs es clock L0) {e : MapEntry} (he : e ∈ (leftOf es seen).toList) :
    ∃ A p B, l = A ++ p :: B ∧ LeftE es (seen.push e.born) (A ++ B) ∧ CurE es (seen.push e.born) p ∧ p ∈ L0 := by
  obtain ⟨a, c, hac⟩ := List.append_of_mem he
  have hsub : (leftOf es seen).toList.Sublist es.toList := by
    unfold leftOf
    rw [Array.toList_filter]
    exact List.filter_sublist
  have hnd : ((leftOf es seen).toList.map (·.born)).Nodup := (hsub.map _).nodup hm.born
  unfold LeftE at h
  rw [hac, List.map_append, List.map_cons] at h
  obtain ⟨A, l2, rfl, e1, e2⟩ := List.append_eq_map_iff.1 h
  obtain ⟨p, B, rfl, e3, e4⟩ := List.map_eq_cons_iff.1 e2
  have hp : e.key = .string p.1 ∧ e.val = .int .i64 p.2 := by
    simp only [mE, Prod.mk.injEq] at e3
    exact ⟨e3.1.symm, e3.2.symm⟩
  have hee : e ∈ es.toList := hsub.subset he
  refine ⟨A, p, B, rfl, ?_, ⟨e, hee, seen, rfl, hp.1, hp.2⟩, ?_⟩
  · unfold LeftE
    rw [leftOf_push, Array.toList_filter, hac, filter_ne (fun x : MapEntry => x.born) a c e (hac ▸ hnd), List.map_append, List.map_append, ← e1, ← e4]
  · have h5 : (e.key, e.val) ∈ L0.map mE := hm.en ▸ List.mem_map.2 ⟨e, hee, rfl⟩
    obtain ⟨q, hq, e5⟩ := List.mem_map.1 h5
    rw [hp.1, hp.2] at e5
    simp only [mE, Prod.mk.injEq, Value.string.injEq, Value.int.injEq, true_and] at e5
    obtain rfl : q = p := Prod.ext e5.1 (by omega)
    exact hq
/-- The next entry, whichever it is; or none is left. -/
theorem L_next {x : Operand} {r b d since c0 : Nat} {seen : Array Nat} {es : Array MapEntry} {clock : Nat} {l L0 : List Nm} (i j : Nat) (hg : o.guard = none) (ho : o.op = .next x false) (hd : o.dst = some d) (hlt : Nat.blt d cx.nt = true) (hx : ev st.env x = some (.pointer (some ⟨r, 0, none⟩)))
    (hi : st.mem[i]? = some (b, .map es clock)) (hj : st.mem[j]? = some (r, .mapIter (some b) since seen c0)) (hm : MapIs es clock L0) (hs : clock = since) (hc : since ≤ c0) (hl : LeftE es seen l)
    (h0 : l = [] → L cx ops K rest { st with env := (d, .tuple #[.bool false]) :: st.env })
    (h1 : ∀ A p B seen', l = A ++ p :: B → p ∈ L0 → LeftE es seen' (A ++ B) → CurE es seen' p → L cx ops K rest { st with env := (d, .tuple #[.bool true, .string p.1, .int .i64 p.2]) :: st.env, mem := st.mem.set j (r, .mapIter (some b) since seen' clock) }) : L cx ops K (o :: rest) st := by
  refine L_cons hg fun Q next a w hok hk => ?_
  rcases run_next_at (P := cx.P) w o.type r b since c0 seen es clock (hok.w.at hj) (hok.w.at hi) (hs ▸ hm.lt) hc with ⟨hz, hr⟩ | ⟨e, he, w1, hw1, hr⟩
  · have hr' : (execOp a.eval o).run cx.P w = .ok (.value (.tuple #[.bool false])) w := by
      unfold execOp; rw [ho]
      simp only [hok.a.ev hx, Sem.run_bind, hr, Result.andThen_ok, Sem.run_pure]
    exact wpIn_value (nd ho (fun c h => by cases h)) hr' (by rw [hd]; exact hk { st with env := (d, .tuple #[.bool false]) :: st.env } _ _ ⟨hok.a.put hlt _, hok.w⟩ (h0 (hl.nil hz)))
  · obtain ⟨A, p, B, hl', hleft, hcur, hp⟩ := hl.step hm he
    obtain ⟨e', he', s0, hpush, hk', hv'⟩ := hcur
    have hsame : e.key = .string p.1 ∧ e.val = .int .i64 p.2 := by
      obtain ⟨a2, hb2⟩ := Array.push_eq_push.1 hpush
      have hsub : (leftOf es seen).toList.Sublist es.toList := by
        unfold leftOf
        rw [Array.toList_filter]
        exact List.filter_sublist
      have : e = e' := by
        have hee := hsub.subset he
        have hnd := hm.born
        have f1 := find_born e es.toList hnd hee
        have f2 := find_born e' es.toList hnd he'
        rw [← a2, f1] at f2
        exact Option.some.inj f2
      rw [this]
      exact ⟨hk', hv'⟩
    have hr' : (execOp a.eval o).run cx.P w = .ok (.value (.tuple #[.bool true, .string p.1, .int .i64 p.2])) (ChangeMaps.setBlock w1 r (.mapIter (some b) since (seen.push e.born) clock)) := by
      unfold execOp; rw [ho]
      simp only [hok.a.ev hx, Sem.run_bind, hr, Result.andThen_ok, Sem.run_pure, hsame.1, hsame.2]
    have hw1' : OkW cx st.mem st.facts w1 := by
      rcases hw1 with rfl | rfl
      · exact hok.w
      · exact hok.w.drew
    have hlt1 := (Array.getElem?_eq_some_iff.1 (hw1'.at hj)).1
    have h2 : OkW cx (st.mem.set j (r, .mapIter (some b) since (seen.push e.born) clock)) st.facts (ChangeMaps.setBlock w1 r (.mapIter (some b) since (seen.push e.born) clock)) :=
      hw1'.set hj (Fr.setObj _) (by
        show (w1.heap.setIfInBounds r _)[r]? = _
        simp [Array.getElem?_setIfInBounds, hlt1])
    exact wpIn_value (nd ho (fun c h => by cases h)) hr' (by rw [hd]; exact hk { st with env := (d, .tuple #[.bool true, .string p.1, .int .i64 p.2]) :: st.env, mem := st.mem.set j (r, .mapIter (some b) since (seen.push e.born) clock) } _ _ ⟨hok.a.put hlt _, h2⟩ (h1 A p B _ hl' hp hleft ⟨e', he', s0, hpush, hk', hv'⟩))
theorem set_same {m : Mem} {j : Nat} {x : Nat × Obj} (h : m[j]? = some x) : m.set j x = m := by
  apply List.ext_getElem?
  intro i
  by_cases hi : j = i
  · subst hi
    have hlt := (List.getElem?_eq_some_iff.1 h).1
    rw [h, List.getElem?_set_self hlt]
  · rw [List.getElem?_set_ne hi]
/-- The same, with what comes out told once. -/
theorem L_next1 {x : Operand} {r b d since : Nat} {seen : Array Nat} {es : Array MapEntry} {l L0 : List Nm} (i j : Nat) (hg : o.guard = none) (ho : o.op = .next x false) (hd : o.dst = some d) (hlt : Nat.blt d cx.nt = true) (hx : ev st.env x = some (.pointer (some ⟨r, 0, none⟩)))
    (hi : st.mem[i]? = some (b, .map es since)) (hj : st.mem[j]? = some (r, .mapIter (some b) since seen since)) (hm : MapIs es since L0) (hl : LeftE es seen l)
    (h : ∀ (t : Bool) (vs : Array Value) (seen' : Array Nat) (l' : List Nm), vs[0]? = some (.bool t) → LeftE es seen' l' → ((t = false ∧ l = []) ∨ (t = true ∧ ∃ A p B, l = A ++ p :: B ∧ l' = A ++ B ∧ p ∈ L0 ∧ CurE es seen' p)) →
      L cx ops K rest { st with env := (d, .tuple vs) :: st.env, mem := st.mem.set j (r, .mapIter (some b) since seen' since) }) : L cx ops K (o :: rest) st :=
  L_next i j hg ho hd hlt hx hi hj hm rfl (Nat.le_refl _) hl (fun h0 => by
    have h1 := h false #[.bool false] seen l rfl hl (.inl ⟨rfl, h0⟩)
    rw [set_same hj] at h1
    exact h1) (fun A p B seen' hl' hp hle hc => h true _ seen' (A ++ B) rfl hle (.inr ⟨rfl, A, p, B, hl', rfl, hp, hc⟩))
end
end Go.Sx
