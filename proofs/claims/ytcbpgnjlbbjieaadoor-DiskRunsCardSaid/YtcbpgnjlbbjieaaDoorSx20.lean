/- More rules: maps from texts to numbers. -/
import Derived.Test.YtcbpgnjlbbjieaaDoorSx
import Derived.MapKept
import Derived.ChangeMaps4
set_option linter.unusedVariables false
set_option linter.unusedSimpArgs false
namespace Go.Sx
open Go
abbrev Nm := ByteArray × Nat
def mE (p : Nm) : Value × Value := (.string p.1, .int .i64 p.2)
/-- The map's entries, in the order in which they were laid. -/
structure MapIs (es : Array MapEntry) (clock : Nat) (L : List Nm) : Prop where
  en : es.toList.map (fun e => (e.key, e.val)) = L.map mE
  lt : ∀ e ∈ es.toList, e.born < clock
  born : (es.toList.map (·.born)).Nodup
  keys : (L.map Prod.fst).Nodup
theorem MapIs.size {es : Array MapEntry} {clock : Nat} {L : List Nm} (h : MapIs es clock L) : es.size = L.length := by
  have := congrArg List.length h.en
  simpa using this
theorem MapIs.made : MapIs #[] 0 [] := ⟨rfl, by simp, by simp, by simp⟩
/-- What the map says of a text. -/
def getN (L : List Nm) (k : ByteArray) : Option Nat := (L.find? fun p => decide (p.1 = k)).map Prod.snd
def delN (L : List Nm) (k : ByteArray) : List Nm := L.filter fun p => decide (p.1 ≠ k)
def putN (L : List Nm) (k : ByteArray) (v : Nat) : List Nm := if (getN L k).isSome then L.map (fun p => if p.1 = k then (k, v) else p) else L ++ [(k, v)]
theorem ba_beq (a b : ByteArray) : (a == b) = decide (a = b) := by
  obtain ⟨x⟩ := a
  obtain ⟨y⟩ := b
  show (x == y) = _
  by_cases h : x = y
  · subst h
    simp
  · have : ¬ ByteArray.mk x = ByteArray.mk y := fun e => h (by injection e)
    rw [decide_eq_false this]
    simpa using h
theorem findNow_str (k : ByteArray) : ∀ (L : List Nm) (es : List MapEntry) (i : Nat), es.map (fun e => (e.key, e.val)) = L.map mE →
    (getN L k = none ∧ Instr.findNow .string (.string k) es i = some none ∧ ∀ p ∈ L, p.1 ≠ k) ∨
    ∃ (L1 L2 : List Nm) (v : Nat), L = L1 ++ (k, v) :: L2 ∧ (∀ p ∈ L1, p.1 ≠ k) ∧ getN L k = some v ∧ Instr.findNow .string (.string k) es i = some (some (i + L1.length, .int .i64 v))
  | [], es, i, h => by
    have : es = [] := by simpa using h
    subst this
    exact .inl ⟨rfl, rfl, by simp⟩
  | (a, v) :: L, [], i, h => by simp at h
  | (a, v) :: L, e :: es, i, h => by
    simp only [List.map_cons, List.cons.injEq, mE, Prod.mk.injEq] at h
    obtain ⟨⟨hk, hv⟩, hr⟩ := h
    unfold Instr.findNow
    rw [hk]
    by_cases hak : k = a
    · subst hak
      refine .inr ⟨[], L, v, rfl, by simp, by simp [getN], ?_⟩
      simp [Instr.sameNow, hv, ba_beq]
    · have hb : (k == a) = false := by rw [ba_beq]; exact decide_eq_false hak
      simp only [Instr.sameNow, hb]
      have hg : getN ((a, v) :: L) k = getN L k := by
        unfold getN
        rw [List.find?_cons_of_neg]
        simpa using fun h => hak h.symm
      rcases findNow_str k L es (i + 1) hr with ⟨h1, h2, h3⟩ | ⟨L1, L2, u, h1, h2, h3, h4⟩
      · refine .inl ⟨hg.trans h1, h2, fun p hp => ?_⟩
        rcases List.mem_cons.1 hp with rfl | hp
        · exact fun h => hak h.symm
        · exact h3 p hp
      · refine .inr ⟨(a, v) :: L1, L2, u, by rw [h1]; rfl, fun p hp => ?_, hg.trans h3, ?_⟩
        · rcases List.mem_cons.1 hp with rfl | hp
          · exact fun h => hak h.symm
          · exact h2 p hp
        · rw [h4, List.length_cons]
          congr 3
          omega
theorem run_getMap {P : Program} {w : World} {b clock : Nat} {es : Array MapEntry} (hb : w.heap[b]? = some (.map es clock)) : (getObj b).run P w = .ok (.map es clock) w := by
  simp [getObj, Sem.run, hb]
theorem run_checkKey_str {P : Program} {w : World} {kt : TypeId} {k : ByteArray} (hk : P.underlying kt = some .string) (em : Bool) : (Instr.checkKey em 10000 kt (.string k)).run P w = .ok () w := by
  rw [show Instr.checkKey em 10000 kt (.string k) = Instr.checkKey em (9999 + 1) kt (.string k) from rfl]
  unfold Instr.checkKey
  simp [run_underlying hk, Result.andThen]
theorem run_findKey_str {P : Program} {w : World} {kt : TypeId} {k : ByteArray} {es : List MapEntry} {r : Option (Nat × Value)} (hk : P.underlying kt = some .string) (h : Instr.findNow .string (.string k) es 0 = some r) : (Instr.findKey kt (.string k) es).run P w = .ok r w := by
  unfold Instr.findKey
  simp [run_underlying hk, Result.andThen, h]
theorem run_lookupN {P : Program} {w : World} {t kt et : TypeId} {b clock : Nat} {es : Array MapEntry} {L : List Nm} (k : ByteArray) (ht : P.underlying t = some (.map kt et)) (hk : P.underlying kt = some .string) (hz : (P.info? et).bind (·.zero) = some (.int .i64 0)) (hb : w.heap[b]? = some (.map es clock)) (hm : MapIs es clock L) :
    (Instr.lookup t (.map (some b)) (.string k) true).run P w = .ok (.tuple #[.int .i64 ((getN L k).getD 0 : Nat), .bool (getN L k).isSome]) w := by
  have hzv : (zeroValue et).run P w = .ok (.int .i64 0) w := by
    cases hq : P.info? et with
    | none => simp [hq] at hz
    | some i =>
      have hz' : i.zero = some (.int .i64 0) := by simpa [hq] using hz
      simp [zeroValue, typeInfo, hq, hz']
  unfold Instr.lookup
  simp only [Sem.run_bind, run_underlying ht, Result.andThen_ok, run_getMap hb, Sem.run_pure, run_checkKey_str hk]
  rcases findNow_str k L es.toList 0 hm.en with ⟨h1, h2, _⟩ | ⟨L1, L2, v, _, _, h1, h2⟩
  · simp only [run_findKey_str hk h2, Result.andThen_ok, hzv, Sem.run_bind, Sem.run_pure, h1]
    rfl
  · simp only [run_findKey_str hk h2, Result.andThen_ok, Sem.run_bind, Sem.run_pure, h1]
    rfl
theorem delN_no {L : List Nm} {k : ByteArray} (h : ∀ p ∈ L, p.1 ≠ k) : delN L k = L := List.filter_eq_self.2 fun p hp => by simpa using h p hp
theorem delN_at {L1 L2 : List Nm} {k : ByteArray} {v : Nat} (h : ((L1 ++ (k, v) :: L2).map Prod.fst).Nodup) : delN (L1 ++ (k, v) :: L2) k = L1 ++ L2 := by
  rw [List.map_append, List.map_cons, List.nodup_append, List.nodup_cons] at h
  obtain ⟨_, ⟨h2, _⟩, h3⟩ := h
  unfold delN
  rw [List.filter_append, List.filter_cons_of_neg (by simp)]
  congr 1
  · exact List.filter_eq_self.2 fun p hp => by
      simpa using h3 p.1 (List.mem_map.2 ⟨p, hp, rfl⟩) k (List.mem_cons_self ..)
  · exact List.filter_eq_self.2 fun p hp => by
      have h5 : p.1 ≠ k := fun e => h2 (e ▸ List.mem_map.2 ⟨p, hp, rfl⟩)
      simpa using h5
theorem erase_toList (es : Array MapEntry) (j : Nat) : (es.eraseIdxIfInBounds j).toList = es.toList.eraseIdx j := by
  unfold Array.eraseIdxIfInBounds
  split
  · simp
  · rename_i h
    rw [List.eraseIdx_of_length_le (by simpa using h)]
theorem MapIs.erase {es : Array MapEntry} {clock : Nat} {L1 L2 : List Nm} {k : ByteArray} {v : Nat} (h : MapIs es clock (L1 ++ (k, v) :: L2)) : MapIs (es.eraseIdxIfInBounds L1.length) clock (L1 ++ L2) := by
  obtain ⟨h1, h2, h3, h4⟩ := h
  have hs : (es.eraseIdxIfInBounds L1.length).toList.Sublist es.toList := by rw [erase_toList]; exact List.eraseIdx_sublist _ _
  refine ⟨?_, fun e he => h2 e (hs.subset he), (hs.map _).nodup h3, ?_⟩
  · rw [erase_toList, ChangeMaps.map_eraseIdx, h1, ← ChangeMaps.map_eraseIdx, List.eraseIdx_append_of_length_le (Nat.le_refl _)]
    simp
  · exact ((List.Sublist.append_left (List.sublist_cons_self _ _) _).map _).nodup h4
theorem run_deleteN {P : Program} {w : World} {t kt ty : TypeId} {b clock : Nat} {es : Array MapEntry} {L : List Nm} (k : ByteArray) {m : TypeId} (ht : P.underlying t = some (.map kt m)) (hk : P.underlying kt = some .string) (hb : w.heap[b]? = some (.map es clock)) (hm : MapIs es clock L) :
    ∃ es', (Builtin.delete_ #[t, kt] ty #[.map (some b), .string k]).run P w = .ok (.tuple #[]) { w with heap := w.heap.setIfInBounds b (.map es' clock) } ∧ MapIs es' clock (delN L k) := by
  rcases findNow_str k L es.toList 0 hm.en with ⟨_, h2, h3⟩ | ⟨L1, L2, v, rfl, _, _, h2⟩
  · refine ⟨es, ?_, by rw [delN_no h3]; exact hm⟩
    simp [Builtin.delete_, run_underlying ht, run_getMap hb, run_checkKey_str hk, run_findKey_str hk h2, MapKept.run_setObj_map _ hb, Result.andThen]
  · refine ⟨es.eraseIdxIfInBounds L1.length, ?_, by rw [delN_at hm.keys]; exact hm.erase⟩
    simp [Builtin.delete_, run_underlying ht, run_getMap hb, run_checkKey_str hk, run_findKey_str hk h2, MapKept.run_setObj_map _ hb, Result.andThen]
theorem putN_no {L : List Nm} {k : ByteArray} {v : Nat} (h : getN L k = none) : putN L k v = L ++ [(k, v)] := by
  unfold putN
  rw [h]
  rfl
theorem putN_at {L1 L2 : List Nm} {k : ByteArray} {u v : Nat} (hg : getN (L1 ++ (k, u) :: L2) k = some u) (h : ((L1 ++ (k, u) :: L2).map Prod.fst).Nodup) : putN (L1 ++ (k, u) :: L2) k v = L1 ++ (k, v) :: L2 := by
  rw [List.map_append, List.map_cons, List.nodup_append, List.nodup_cons] at h
  obtain ⟨_, ⟨h2, _⟩, h3⟩ := h
  unfold putN
  rw [hg, if_pos (show (some u).isSome = true from rfl), List.map_append, List.map_cons, if_pos (show (k, u).1 = k from rfl)]
  have e1 : L1.map (fun p => if p.1 = k then (k, v) else p) = L1 := by
    conv => rhs; rw [← List.map_id L1]
    exact List.map_congr_left fun p hp => if_neg (h3 p.1 (List.mem_map.2 ⟨p, hp, rfl⟩) k (List.mem_cons_self ..))
  have e2 : L2.map (fun p => if p.1 = k then (k, v) else p) = L2 := by
    conv => rhs; rw [← List.map_id L2]
    exact List.map_congr_left fun p hp => if_neg (show ¬ p.1 = k from fun e => h2 (e ▸ List.mem_map.2 ⟨p, hp, rfl⟩))
  rw [e1, e2]
theorem MapIs.push {es : Array MapEntry} {clock : Nat} {L : List Nm} {k : ByteArray} {v : Nat} (h : MapIs es clock L) (hk : ∀ p ∈ L, p.1 ≠ k) : MapIs (es.push { key := .string k, val := .int .i64 v, born := clock }) (clock + 1) (L ++ [(k, v)]) := by
  obtain ⟨h1, h2, h3, h4⟩ := h
  refine ⟨by rw [Array.toList_push, List.map_append, h1, List.map_append]; rfl, fun e he => ?_, ?_, ?_⟩
  · rw [Array.toList_push] at he
    rcases List.mem_append.1 he with h | h
    · exact Nat.lt_succ_of_lt (h2 e h)
    · obtain rfl := List.mem_singleton.1 h
      exact Nat.lt_succ_self _
  · rw [Array.toList_push, List.map_append, List.nodup_append]
    refine ⟨h3, by simp, fun a ha b hb => ?_⟩
    obtain ⟨e, he, rfl⟩ := List.mem_map.1 ha
    obtain rfl : b = clock := by simpa using hb
    exact Nat.ne_of_lt (h2 e he)
  · rw [List.map_append, List.nodup_append]
    refine ⟨h4, by simp, fun a ha b hb => ?_⟩
    obtain ⟨p, hp, rfl⟩ := List.mem_map.1 ha
    obtain rfl : b = k := by simpa using hb
    exact hk p hp
theorem modify_toList (es : Array MapEntry) (j : Nat) (f : MapEntry → MapEntry) : (es.modify j f).toList = es.toList.modify j f := by
  simp
theorem modify_mid {α : Type} : ∀ (a : List α) (e : α) (c : List α) (f : α → α), (a ++ e :: c).modify a.length f = a ++ f e :: c
  | [], _, _, _ => rfl
  | x :: a, e, c, f => congrArg (x :: ·) (modify_mid a e c f)
theorem MapIs.set {es : Array MapEntry} {clock : Nat} {L1 L2 : List Nm} {k : ByteArray} {u v : Nat} (h : MapIs es clock (L1 ++ (k, u) :: L2)) : MapIs (es.modify L1.length fun e => { e with key := .string k, val := .int .i64 v }) clock (L1 ++ (k, v) :: L2) := by
  obtain ⟨h1, h2, h3, h4⟩ := h
  obtain ⟨a, e, c, he, ha⟩ : ∃ a e c, es.toList = a ++ e :: c ∧ a.length = L1.length := by
    have hl : L1.length < es.toList.length := by
      have := congrArg List.length h1
      simp only [List.length_map, List.length_append, List.length_cons] at this
      omega
    exact ⟨es.toList.take L1.length, es.toList[L1.length], es.toList.drop (L1.length + 1), by rw [← List.drop_eq_getElem_cons hl, List.take_append_drop], by rw [List.length_take]; omega⟩
  have hm : (es.modify L1.length fun e => { e with key := .string k, val := .int .i64 v }).toList = a ++ { e with key := .string k, val := .int .i64 v } :: c := by
    rw [modify_toList, he, ← ha]
    exact modify_mid a e c _
  rw [he, List.map_append, List.map_append, List.map_cons, List.map_cons] at h1
  obtain ⟨e1, e2⟩ := List.append_inj h1 (by rw [List.length_map, List.length_map, ha])
  injection e2 with e2 e3
  refine ⟨?_, fun x hx => ?_, ?_, ?_⟩
  · rw [hm, List.map_append, List.map_cons, List.map_append, List.map_cons, e1, e3]
    rfl
  · rw [hm] at hx
    rcases List.mem_append.1 hx with h | h
    · exact h2 x (he ▸ List.mem_append_left _ h)
    · rcases List.mem_cons.1 h with rfl | h
      · exact h2 e (he ▸ List.mem_append_right _ (List.mem_cons_self ..))
      · exact h2 x (he ▸ List.mem_append_right _ (List.mem_cons_of_mem _ h))
  · rw [hm]
    rw [he] at h3
    simpa using h3
  · simpa using h4
theorem run_updateN {P : Program} {w : World} {t kt m : TypeId} {b clock : Nat} {es : Array MapEntry} {L : List Nm} (k : ByteArray) (v : Nat) (ht : P.underlying t = some (.map kt m)) (hk : P.underlying kt = some .string) (hb : w.heap[b]? = some (.map es clock)) (hm : MapIs es clock L) :
    ∃ es' clock', (Instr.mapUpdate t (.map (some b)) (.string k) (.int .i64 v)).run P w = .ok () { w with heap := w.heap.setIfInBounds b (.map es' clock') } ∧ MapIs es' clock' (putN L k v) := by
  rcases findNow_str k L es.toList 0 hm.en with ⟨h1, h2, h3⟩ | ⟨L1, L2, u, rfl, _, h1, h2⟩
  · refine ⟨_, _, ?_, (putN_no h1) ▸ hm.push h3⟩
    simp [Instr.mapUpdate, run_underlying ht, run_getMap hb, run_checkKey_str hk, run_findKey_str hk h2, MapKept.run_setObj_map _ hb, Result.andThen]
  · refine ⟨_, _, ?_, (putN_at h1 hm.keys) ▸ hm.set⟩
    have hold : (es[L1.length]?).map (·.key) = some (.string k) := by
      have e1 := congrArg (fun l => l[L1.length]?) hm.en
      simp only [List.getElem?_map, List.getElem?_append_right (Nat.le_refl _), Nat.sub_self, List.getElem?_cons_zero, Option.map_some] at e1
      rw [Array.getElem?_toList] at e1
      cases hq : es[L1.length]? with
      | none => rw [hq] at e1; simp at e1
      | some e =>
        rw [hq] at e1
        simp only [Option.map_some, Option.some.injEq, mE, Prod.mk.injEq] at e1
        simp [e1.1]
    have hsb : Instr.sameBits 10000 (.string k) (.string k) = true := by
      rw [show Instr.sameBits 10000 (.string k) (.string k) = (k == k) from rfl, ba_beq]
      simp
    have hks : (Instr.keyThatStays (.string k) (.string k)).run P w = .ok (.string k) w := by
      simp [Instr.keyThatStays, hsb]
    simp [Instr.mapUpdate, run_underlying ht, run_getMap hb, run_checkKey_str hk, run_findKey_str hk h2, MapKept.run_setObj_map _ hb, Result.andThen, hold, hks]
/-! ### The rules -/
section
variable {cx : Cx} {o : Oper} {st : St}
theorem Fr.setObj {w : World} {b : Nat} (p : Obj) : Fr [b] w { w with heap := w.heap.setIfInBounds b p } :=
  ⟨rfl, rfl, rfl, by simp, fun k _ hm => by
    have : b ≠ k := fun e => hm (by simp [e])
    simp [Array.getElem?_setIfInBounds, this]⟩
/-- v, ok := m[k] -/
theorem V_lookupN {t kt et : TypeId} {x y : Operand} {b clock : Nat} {es : Array MapEntry} {L : List Nm} {k : ByteArray} (i : Nat) (ho : o.op = .lookup t x y true) (hx : ev st.env x = some (.map (some b))) (hy : ev st.env y = some (.string k)) (ht : cx.P.underlying t = some (.map kt et)) (hk : cx.P.underlying kt = some .string)
    (hz : (cx.P.info? et).bind (·.zero) = some (.int .i64 0)) (hi : st.mem[i]? = some (b, .map es clock)) (hm : MapIs es clock L) : V cx o st (.tuple #[.int .i64 ((getN L k).getD 0 : Nat), .bool (getN L k).isSome]) :=
  ⟨nd ho (fun c h => by cases h), fun a w h => by
    unfold execOp; rw [ho]
    simp only [h.a.ev hx, h.a.ev hy, Sem.run_bind, run_lookupN k ht hk hz (h.w.at hi) hm, Result.andThen_ok, Sem.run_pure]⟩
theorem V_lenN {t kt et : TypeId} {x : Operand} {b clock : Nat} {es : Array MapEntry} {L : List Nm} (i : Nat) (ho : o.op = .call { callee := .builtin .len, args := #[x], argTypes := #[t] }) (hx : ev st.env x = some (.map (some b))) (ht : cx.P.underlying t = some (.map kt et)) (hi : st.mem[i]? = some (b, .map es clock)) (hm : MapIs es clock L) : V cx o st (.int .i64 L.length) :=
  V_builtin ho (vs := [.map (some b)]) (by simp [evs, hx]) fun cs w hw => by
    simp [builtin, Builtin.len_, run_underlying ht, run_getMap (hw.at hi), goInt, hm.size, Result.andThen]
/-- m[k] = v -/
theorem S_mapUpdate {K : St → Prop} {t kt et : TypeId} {x y z : Operand} {b clock v : Nat} {es : Array MapEntry} {L : List Nm} {k : ByteArray} (i : Nat) (ho : o.op = .mapUpdate t x y z) (hd : o.dst = none) (hx : ev st.env x = some (.map (some b))) (hy : ev st.env y = some (.string k)) (hv : ev st.env z = some (.int .i64 v))
    (ht : cx.P.underlying t = some (.map kt et)) (hk : cx.P.underlying kt = some .string) (hi : st.mem[i]? = some (b, .map es clock)) (hm : MapIs es clock L) (h : ∀ es' clock', MapIs es' clock' (putN L k v) → K { st with mem := st.mem.set i (b, .map es' clock') }) : S cx o K st := by
  intro Q next a w hok hkk
  obtain ⟨es', clock', hrun, hm'⟩ := run_updateN (P := cx.P) k v ht hk (hok.w.at hi) hm
  have hr : (execOp a.eval o).run cx.P w = .ok .skip { w with heap := w.heap.setIfInBounds b (.map es' clock') } := by
    unfold execOp; rw [ho]
    simp only [hok.a.ev hx, hok.a.ev hy, hok.a.ev hv, Sem.run_bind, hrun, Result.andThen_ok, Sem.run_pure]
  refine wpIn_skip' (nd ho (fun c h => by cases h)) hr ?_
  rw [hd]
  exact hkk { st with mem := st.mem.set i (b, .map es' clock') } _ _ ⟨hok.a, hok.w.set hi (Fr.setObj _) (MapKept.heap_set (hok.w.at hi)).1⟩ (h es' clock' hm')
/-- make(map[K]V) -/
theorem L_makeMap {ops : Array Oper} {K : St → Prop} {rest : List Oper} {t : TypeId} {d : Nat} (hg : o.guard = none) (ho : o.op = .makeMap t none) (hd : o.dst = some d) (hlt : Nat.blt d cx.nt = true)
    (h : ∀ b, L cx ops K rest { st with env := (d, .map (some b)) :: st.env, mem := st.mem ++ [(b, .map #[] 0)] }) : L cx ops K (o :: rest) st := by
  refine L_cons hg fun Q next a w hok hk => ?_
  have hr : (execOp a.eval o).run cx.P w = .ok (.value (.map (some w.heap.size))) (w.alloc (.map #[] 0)) := by
    unfold execOp; rw [ho]
    simp [Instr.makeMap, newObj, Sem.run, Result.andThen]
  exact wpIn_value (nd ho (fun c h => by cases h)) hr (by rw [hd]; exact hk _ _ _ ⟨hok.a.put hlt _, hok.w.alloc _⟩ (h _))
/-- delete(m, k) -/
theorem S_delete {K : St → Prop} {args : Array Operand} {t kt et : TypeId} {b clock : Nat} {es : Array MapEntry} {L : List Nm} {k : ByteArray} (i : Nat) (ho : o.op = .call { callee := .builtin .delete, args := args, argTypes := #[t, kt] }) (hd : o.dst = none) (hv : evs st.env args.toList = some [.map (some b), .string k])
    (ht : cx.P.underlying t = some (.map kt et)) (hk : cx.P.underlying kt = some .string) (hi : st.mem[i]? = some (b, .map es clock)) (hm : MapIs es clock L) (h : ∀ es', MapIs es' clock (delN L k) → K { st with mem := st.mem.set i (b, .map es' clock) }) : S cx o K st := by
  intro Q next a w hok hkk
  obtain ⟨es', hrun, hm'⟩ := run_deleteN (P := cx.P) (ty := o.type) k ht hk (hok.w.at hi) hm
  obtain ⟨cs, e⟩ := run_builtin hok.a ho hv w
  have hr : (execOp a.eval o).run cx.P w = .ok (.value (.tuple #[])) { w with heap := w.heap.setIfInBounds b (.map es' clock) } := by
    rw [e]
    show (builtin .delete _ _ _ _).run cx.P w = _
    simp [builtin, hrun, Result.andThen]
  refine wpIn_value (nd ho (fun c h => by cases h)) hr ?_
  rw [hd]
  exact hkk { st with mem := st.mem.set i (b, .map es' clock) } _ _ ⟨hok.a, hok.w.set hi (Fr.setObj _) (MapKept.heap_set (hok.w.at hi)).1⟩ (h es' hm')
end
end Go.Sx
