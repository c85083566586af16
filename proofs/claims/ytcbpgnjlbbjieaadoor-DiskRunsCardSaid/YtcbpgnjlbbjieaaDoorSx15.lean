/- More rules: a chain of tests joined by && or ||, stepped through once: the answer is the tests' && or ||. -/
import Derived.Test.YtcbpgnjlbbjieaaDoorSx13
set_option linter.unusedVariables false
set_option linter.unusedSimpArgs false
namespace Go.Sx
section
variable {cx : Cx} {ops : Array Oper} {K : St → Prop} {o : Oper} {rest : List Oper} {st : St}
def Ext (e e' : Env) : Prop := ∀ k v, get e k = some v → get e' k = some v
theorem OkA.ext {e e' : Env} {ds : List Deferred} {a : Act} (h : OkA cx e' ds a) (hx : Ext e e') : OkA cx e ds a := ⟨fun k v hk => h.env k v (hx k v hk), h.size, h.ds⟩
theorem Ext.refl (e : Env) : Ext e e := fun _ _ h => h
theorem Ext.fresh {e : Env} {t : Nat} {v : Value} (h : (get e t).isNone = true) : Ext e ((t, v) :: e) := by
  intro k u hk
  unfold get
  split
  · rename_i he
    have : t = k := Nat.eq_of_beq_eq_true he
    subst this
    rw [hk] at h
    cases h
  · exact hk
theorem Ext.trans {a b c : Env} (h : Ext a b) (k : Ext b c) : Ext a c := fun i v hi => k i v (h i v hi)
theorem Ext.cons {a b : Env} (h : Ext a b) (t : Nat) (v : Value) : Ext ((t, v) :: a) ((t, v) :: b) := by
  intro k u hk
  unfold get at hk ⊢
  split
  · rename_i he
    rw [he] at hk
    exact hk
  · rename_i he
    rw [he] at hk
    exact h k u hk
/-- The first n pairs are new. -/
theorem ext_drop (n : Nat) {e : Env} (h : ((e.take n).all fun p => (get (e.drop n) p.1).isNone) = true) : Ext (e.drop n) e := by
  have key : ∀ a b : Env, (a.all fun p => (get b p.1).isNone) = true → Ext b (a ++ b) := by
    intro a b
    induction a with
    | nil => intro _; exact Ext.refl _
    | cons p a ih =>
      intro h
      rw [List.all_cons, Bool.and_eq_true] at h
      intro k u hk
      show get ((p.1, p.2) :: (a ++ b)) k = some u
      unfold get
      split
      · rename_i he
        have : p.1 = k := Nat.eq_of_beq_eq_true he
        have h1 := h.1
        rw [this, hk] at h1
        cases h1
      · exact ih h.2 k u hk
  have := key (e.take n) (e.drop n) h
  rwa [List.take_append_drop] at this
theorem ext_cut (n : Nat) {e e' : Env} (hd : e'.drop n = e) (h : ((e'.take n).all fun p => (get e p.1).isNone) = true) : Ext e e' := by
  subst hd
  exact ext_drop n h
/-- All of these are guarded by one slot, and lay what was not there. -/
def segB (nt s : Nat) (want : Bool) (ops : Array Oper) (env : Env) : List Oper → Bool
  | [] => true
  | o :: r => (match o.guard with
      | some (j, b) => b == want && (match (ops[j]?).bind (·.dst) with | some d => Nat.beq d s | none => false)
      | none => false) && (match o.dst with | some t => Nat.blt t nt && (get env t).isNone | none => false) && segB nt s want ops env r
theorem segB_cons {nt s : Nat} {want : Bool} {env : Env} {o : Oper} {r : List Oper} (h : segB nt s want ops env (o :: r) = true) :
    (∃ j, o.guard = some (j, want) ∧ (ops[j]?).bind (·.dst) = some s) ∧ (∃ t, o.dst = some t ∧ Nat.blt t nt = true ∧ (get env t).isNone = true) ∧ segB nt s want ops env r = true := by
  unfold segB at h
  rw [Bool.and_eq_true, Bool.and_eq_true] at h
  obtain ⟨⟨h1, h2⟩, h3⟩ := h
  refine ⟨?_, ?_, h3⟩
  · split at h1
    · rename_i j b hg
      rw [Bool.and_eq_true] at h1
      obtain ⟨hb, hd⟩ := h1
      have hb : b = want := by simpa using hb
      subst hb
      split at hd
      · rename_i d hd'
        have : d = s := Nat.eq_of_beq_eq_true hd
        subst this
        exact ⟨j, hg, hd'⟩
      · cases hd
    · cases h1
  · split at h2
    · rename_i t ht
      rw [Bool.and_eq_true] at h2
      exact ⟨t, ht, h2.1, h2.2⟩
    · cases h2
theorem L_skips {s : Nat} {want : Bool} {v : Value} (hs : get st.env s = some v) (hv : isB want v = false) (hlt : Nat.blt s cx.nt = true) {l2 : List Oper} (h2 : L cx ops K l2 st) :
    ∀ l1 : List Oper, segB cx.nt s want ops st.env l1 = true → L cx ops K (l1 ++ l2) st
  | [], _ => h2
  | o :: r, h => by
    obtain ⟨⟨j, hg, hj⟩, ⟨t, ht, htl, hf⟩, h3⟩ := segB_cons h
    refine L_skip hg hj hlt hs hv ht htl ?_
    intro Q a w ho hk
    exact L_skips hs hv hlt h2 r h3 Q a w ⟨ho.a.ext (Ext.fresh hf), ho.w⟩ hk
theorem LQ_skips {s : Nat} {want : Bool} {v : Value} (hs : get st.env s = some v) (hv : isB want v = false) (hlt : Nat.blt s cx.nt = true) {l2 : List Oper} (h2 : LQ cx ops K l2 st) :
    ∀ l1 : List Oper, segB cx.nt s want ops st.env l1 = true → LQ cx ops K (l1 ++ l2) st
  | [], _ => h2
  | o :: r, h => by
    obtain ⟨⟨j, hg, hj⟩, ⟨t, ht, htl, hf⟩, h3⟩ := segB_cons h
    refine LQ_skip hg hj hlt hs hv ht htl ?_
    intro Kf a ho hk
    exact LQ_skips hs hv hlt h2 r h3 Kf a (ho.ext (Ext.fresh hf)) (fun e' a' h1 h2 => hk e' a' h1 h2)
/-- What a test that was carried out leaves. -/
structure Left (st : St) (s : Nat) (b : Bool) (y : Operand) (q : Bool) (s' : St) : Prop where
  y : ev s'.env y = some (.bool q)
  mem : s'.mem = st.mem
  facts : s'.facts = st.facts
  ds : s'.ds = st.ds
  env : Ext ((s, .bool b) :: st.env) s'.env
theorem cut_list {l : List Oper} {n : Nat} {p : Oper} (hp : l[n]? = some p) : l = l.take n ++ p :: l.drop (n + 1) := by
  have hn := (List.getElem?_eq_some_iff.1 hp).1
  have e := (List.getElem?_eq_some_iff.1 hp).2
  rw [← e, ← List.drop_eq_getElem_cons hn, List.take_append_drop]
theorem Left.ext {s : Nat} {b : Bool} {y : Operand} {q : Bool} {s' : St} (h : Left st s b y q s') (hs : get st.env s = some (.bool b)) : Ext st.env s'.env := by
  refine Ext.trans ?_ h.env
  intro k u hk
  unfold get
  split
  · rename_i he
    have : s = k := Nat.eq_of_beq_eq_true he
    subst this
    rw [hs] at hk
    exact hk
  · exact hk
theorem L_and (n s tp : Nat) {b q : Bool} {p : Oper} {y : Operand} {l : List Oper} (hs : get st.env s = some (.bool b)) (hlt : Nat.blt s cx.nt = true) (hp : l[n]? = some p) (hg : p.guard = none) (ho : p.op = .pick (.tmp s) y (.const (.bool false)))
    (hd : p.dst = some tp) (htp : Nat.blt tp cx.nt = true) (hseg : segB cx.nt s true ops st.env (l.take n) = true)
    (h1 : b = true → ∀ rest K', (∀ s', Left st s true y q s' → L cx ops K' rest s') → L cx ops K' (l.take n ++ rest) (st.put s (.bool true)))
    (h2 : L cx ops K (l.drop (n + 1)) (st.put tp (.bool (b && q)))) : L cx ops K l st := by
  rw [cut_list hp]
  cases b with
  | false =>
    refine L_skips hs rfl hlt ?_ _ hseg
    exact L_v hg hd htp (V_pickF ho hs rfl) h2
  | true =>
    have h3 := h1 rfl (p :: l.drop (n + 1)) K (fun s' hl => by
      have hs' : get s'.env s = some (.bool true) := hl.ext hs _ _ hs
      refine L_v hg hd htp (V_pickT ho hs' hl.y) ?_
      intro Q a w hok hk
      obtain ⟨ha, hw⟩ := hok
      refine h2 Q a w ⟨?_, ?_⟩ hk
      · have : OkA cx ((tp, .bool q) :: st.env) s'.ds a := ha.ext ((hl.ext hs).cons _ _)
        rw [hl.ds] at this
        exact this
      · have hw' : OkW cx s'.mem s'.facts w := hw
        rw [hl.mem, hl.facts] at hw'
        exact hw')
    intro Q a w hok hk
    exact h3 Q a w ⟨put_same hok.a hs, hok.w⟩ hk
theorem L_or (n s tp : Nat) {b q : Bool} {p : Oper} {y : Operand} {l : List Oper} (hs : get st.env s = some (.bool b)) (hlt : Nat.blt s cx.nt = true) (hp : l[n]? = some p) (hg : p.guard = none) (ho : p.op = .pick (.tmp s) (.const (.bool true)) y)
    (hd : p.dst = some tp) (htp : Nat.blt tp cx.nt = true) (hseg : segB cx.nt s false ops st.env (l.take n) = true)
    (h1 : b = false → ∀ rest K', (∀ s', Left st s false y q s' → L cx ops K' rest s') → L cx ops K' (l.take n ++ rest) (st.put s (.bool false)))
    (h2 : L cx ops K (l.drop (n + 1)) (st.put tp (.bool (b || q)))) : L cx ops K l st := by
  rw [cut_list hp]
  cases b with
  | true =>
    refine L_skips hs rfl hlt ?_ _ hseg
    exact L_v hg hd htp (V_pickT ho hs rfl) h2
  | false =>
    have h3 := h1 rfl (p :: l.drop (n + 1)) K (fun s' hl => by
      have hs' : get s'.env s = some (.bool false) := hl.ext hs _ _ hs
      refine L_v hg hd htp (V_pickF ho hs' hl.y) ?_
      intro Q a w hok hk
      obtain ⟨ha, hw⟩ := hok
      refine h2 Q a w ⟨?_, ?_⟩ hk
      · have : OkA cx ((tp, .bool q) :: st.env) s'.ds a := ha.ext ((hl.ext hs).cons _ _)
        rw [hl.ds] at this
        exact this
      · have hw' : OkW cx s'.mem s'.facts w := hw
        rw [hl.mem, hl.facts] at hw'
        exact hw')
    intro Q a w hok hk
    exact h3 Q a w ⟨put_same hok.a hs, hok.w⟩ hk
/-- The same, where the order is open and all is quiet. -/
structure LeftQ (st : St) (s : Nat) (b : Bool) (y : Operand) (q : Bool) (s' : St) : Prop where
  y : ev s'.env y = some (.bool q)
  rest : s' = { st with env := s'.env }
  env : Ext ((s, .bool b) :: st.env) s'.env
theorem LeftQ.ext {s : Nat} {b : Bool} {y : Operand} {q : Bool} {s' : St} (h : LeftQ st s b y q s') (hs : get st.env s = some (.bool b)) : Ext st.env s'.env := by
  refine Ext.trans ?_ h.env
  intro k u hk
  unfold get
  split
  · rename_i he
    have : s = k := Nat.eq_of_beq_eq_true he
    subst this
    rw [hs] at hk
    exact hk
  · exact hk
theorem LQ_ext {l : List Oper} {e : Env} (h : LQ cx ops K l st) (he : Ext st.env e) : LQ cx ops K l { st with env := e } :=
  fun Kf a ha hk => h Kf a (ha.ext he) hk
theorem LQ_and (n s tp : Nat) {b q : Bool} {p : Oper} {y : Operand} {l : List Oper} (hs : get st.env s = some (.bool b)) (hlt : Nat.blt s cx.nt = true) (hp : l[n]? = some p) (hg : p.guard = none) (ho : p.op = .pick (.tmp s) y (.const (.bool false)))
    (hd : p.dst = some tp) (htp : Nat.blt tp cx.nt = true) (hseg : segB cx.nt s true ops st.env (l.take n) = true)
    (h1 : b = true → ∀ rest K', (∀ s', LeftQ st s true y q s' → LQ cx ops K' rest s') → LQ cx ops K' (l.take n ++ rest) (st.put s (.bool true)))
    (h2 : LQ cx ops K (l.drop (n + 1)) (st.put tp (.bool (b && q)))) : LQ cx ops K l st := by
  rw [cut_list hp]
  cases b with
  | false =>
    refine LQ_skips hs rfl hlt ?_ _ hseg
    exact LQ_v hg hd htp (V_pickF ho hs rfl) h2
  | true =>
    have h3 := h1 rfl (p :: l.drop (n + 1)) K (fun s' hl => by
      have hs' : get s'.env s = some (.bool true) := hl.ext hs _ _ hs
      refine LQ_v hg hd htp (V_pickT ho hs' hl.y) ?_
      have h4 := LQ_ext h2 ((hl.ext hs).cons tp (.bool q))
      have e : (s'.put tp (.bool q)) = { (st.put tp (.bool q)) with env := (tp, .bool q) :: s'.env } := by rw [hl.rest]; rfl
      rw [e]
      exact h4)
    exact fun Kf a ha hk => h3 Kf a (put_same ha hs) (fun e' a' h4 h5 => hk e' a' h4 h5)
theorem LQ_or (n s tp : Nat) {b q : Bool} {p : Oper} {y : Operand} {l : List Oper} (hs : get st.env s = some (.bool b)) (hlt : Nat.blt s cx.nt = true) (hp : l[n]? = some p) (hg : p.guard = none) (ho : p.op = .pick (.tmp s) (.const (.bool true)) y)
    (hd : p.dst = some tp) (htp : Nat.blt tp cx.nt = true) (hseg : segB cx.nt s false ops st.env (l.take n) = true)
    (h1 : b = false → ∀ rest K', (∀ s', LeftQ st s false y q s' → LQ cx ops K' rest s') → LQ cx ops K' (l.take n ++ rest) (st.put s (.bool false)))
    (h2 : LQ cx ops K (l.drop (n + 1)) (st.put tp (.bool (b || q)))) : LQ cx ops K l st := by
  rw [cut_list hp]
  cases b with
  | true =>
    refine LQ_skips hs rfl hlt ?_ _ hseg
    exact LQ_v hg hd htp (V_pickT ho hs rfl) h2
  | false =>
    have h3 := h1 rfl (p :: l.drop (n + 1)) K (fun s' hl => by
      have hs' : get s'.env s = some (.bool false) := hl.ext hs _ _ hs
      refine LQ_v hg hd htp (V_pickF ho hs' hl.y) ?_
      have h4 := LQ_ext h2 ((hl.ext hs).cons tp (.bool q))
      have e : (s'.put tp (.bool q)) = { (st.put tp (.bool q)) with env := (tp, .bool q) :: s'.env } := by rw [hl.rest]; rfl
      rw [e]
      exact h4)
    exact fun Kf a ha hk => h3 Kf a (put_same ha hs) (fun e' a' h4 h5 => hk e' a' h4 h5)
theorem S_alloc {t : TypeId} {d : Nat} {z : Value} (ho : o.op = .alloc t) (hd : o.dst = some d) (hlt : Nat.blt d cx.nt = true) (hz : (cx.P.info? t).bind (·.zero) = some z)
    (h : ∀ b, K { st with env := (d, .pointer (some ⟨b, 0, none⟩)) :: st.env, mem := st.mem ++ [(b, .cells z.cells t)] }) : S cx o K st := by
  intro Q next a w hok hk
  have hr : (execOp a.eval o).run cx.P w = .ok (.value (.pointer (some ⟨w.heap.size, 0, none⟩))) (w.alloc (.cells z.cells t)) := by
    unfold execOp; rw [ho]
    cases hq : cx.P.info? t with
    | none => simp [hq] at hz
    | some i =>
      have hz' : i.zero = some z := by simpa [hq] using hz
      simp [Instr.alloc, zeroValue, typeInfo, hq, hz', newVar, newRow]
  exact wpIn_value (nd ho (fun c h => by cases h)) hr (by rw [hd]; exact hk _ _ _ ⟨hok.a.put hlt _, hok.w.alloc _⟩ (h _))
theorem LO_both {m0 : Mem} {f0 : List Fact} {k1 k2 : Nat} {r1 r2 : Ord} (h1 : LO cx m0 f0 ops K (.one k1 r1) st) (h2 : LO cx m0 f0 ops K (.one k2 r2) st) : LO cx m0 f0 ops K (.two k1 r1 k2 r2) st := fun a w ho => ⟨h1 a w ho, h2 a w ho⟩
theorem LO_three {m0 : Mem} {f0 : List Fact} {k1 k2 k3 : Nat} {r1 r2 r3 : Ord} (h1 : LO cx m0 f0 ops K (.one k1 r1) st) (h2 : LO cx m0 f0 ops K (.one k2 r2) st) (h3 : LO cx m0 f0 ops K (.one k3 r3) st) : LO cx m0 f0 ops K (.three k1 r1 k2 r2 k3 r3) st := fun a w ho => ⟨h1 a w ho, h2 a w ho, h3 a w ho⟩
/-- What is known behind a part, told once: the ways in are many. -/
theorem J_mid {Kx : Exit → St → Prop} {c y : Code} {X : Type} (s : X → St) (h1 : J cx c (Exit.thenS (fun st' => ∃ b, Le (s b) st') Kx) st) (h2 : ∀ b, J cx y Kx (s b)) : J cx c (Exit.thenS (J cx y Kx) Kx) st :=
  h1.mono fun e s' h => by
    cases e with
    | normal => obtain ⟨b, hb⟩ := h; exact J_le hb (h2 b)
    | exit id => exact h
    | goto l => exact h
    | ret => exact h
    | panic c => exact h
    | outgrown => exact h
/-- A struct's parts, evaluated. -/
def evp (e : Env) : List (Nat × Operand) → Option (List (Nat × Value))
  | [] => some []
  | (i, x) :: r => match ev e x, evp e r with
    | some v, some vs => some ((i, v) :: vs)
    | _, _ => none
theorem evp_map {e : Env} : ∀ {l : List (Nat × Operand)} {vs : List (Nat × Value)}, evp e l = some vs → l.map (fun p => (p.1, ev e p.2)) = vs.map (fun p => (p.1, some p.2))
  | [], vs, h => by injection h with h; subst h; rfl
  | (i, x) :: r, vs, h => by
    unfold evp at h
    split at h
    · rename_i v vs' h1 h2
      injection h with h
      subst h
      rw [List.map_cons, List.map_cons, evp_map h2, h1]
    · cases h
theorem V_buildE {t : TypeId} {parts : Array (Nat × Operand)} {vs : List (Nat × Value)} {v : Value} (ho : o.op = .build t parts) (hp : evp st.env parts.toList = some vs) (hr : ∀ w, (Instr.build t vs.toArray).run cx.P w = .ok v w) : V cx o st v :=
  V_build ho (evp_map hp) hr
theorem V_neg {t : TypeId} {x : Operand} {k : IntKind} {n r : Int} (ho : o.op = .unOp .neg t x) (hx : ev st.env x = some (.int k n)) (hr : k.wrap (-n) = r) : V cx o st (.int k r) :=
  ⟨nd ho (fun c h => by cases h), fun a w h => by
    subst hr
    unfold execOp; rw [ho]
    have e : (Op.unary .neg (.int k n)).run cx.P w = .ok (.int k (k.wrap (-n))) w := by
      rw [← Int.zero_sub]; rfl
    simp only [h.a.ev hx, Sem.run_bind, e, Result.andThen_ok, Sem.run_pure]⟩
end
end Go.Sx
