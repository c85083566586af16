/- Part 1 of the texts that the law leans on. -/
import Derived.OrdersIn
import Derived.TacticsIn
import Derived.RangeFuncIn
import Derived.RangeFuncLeaves
import Derived.RangeFuncSeq
import Derived.Lib.Strings
import Derived.Laws.IdiomCopy
import Derived.Laws.IdiomStrings
import Derived.Laws.Concat
import Derived.Laws.Slices
import Derived.StillTail
import Derived.LoopNIn
import Derived.Deep.Quiet
import Derived.Below
import Derived.Laws.Rows
import Derived.Laws.Tables
import Derived.Laws.CopyRow
import Derived.KernelRfl
import Derived.Deep.AppendSrc
import Derived.Laws.AppendOwn
import Derived.Laws.BytesString
import Derived.Laws.Externs
import Derived.ChangeKeysEq
import Derived.Laws.StructEq
import Derived.Laws.Small
import Derived.IntWalk
/- Rules by which a Go function's text is stepped through: what the slots hold is a list of pairs, what the call's own blocks hold is another; no fact about the program itself is stated here. -/
set_option linter.unusedVariables false
set_option linter.unusedSimpArgs false
namespace Go.Sx

/-! ### The slots -/
abbrev Env := List (Nat × Value)

def get : Env → Nat → Option Value
  | [], _ => none
  | (k, v) :: r, s => match Nat.beq k s with
    | true => some v
    | false => get r s

def ev (e : Env) : Operand → Option Value
  | .tmp t => get e t
  | .const v => some v
  | .global g => some (.pointer (some ⟨g, 0, none⟩))
  | .func f => some (.func (.func f) #[] #[])

def evs (e : Env) : List Operand → Option (List Value)
  | [] => some []
  | x :: r => match ev e x, evs e r with
    | some v, some vs => some (v :: vs)
    | _, _ => none

/-- Every pair of the first is what the second gives. -/
def sub : Env → Env → Prop
  | [], _ => True
  | (k, v) :: r, e => get e k = some v ∧ sub r e

theorem sub_get {e' e : Env} (h : sub e' e) {k : Nat} {v : Value} (hg : get e' k = some v) : get e k = some v := by
  induction e' with
  | nil => simp [get] at hg
  | cons p r ih =>
    obtain ⟨k', v'⟩ := p
    unfold get at hg
    split at hg
    · rename_i hk
      have hk' : k' = k := Nat.eq_of_beq_eq_true hk
      subst hk'
      injection hg with hg
      subst hg
      exact h.1
    · exact ih h.2 hg

/-! ### The world -/
/-- Of what was there nothing has turned but the blocks named. -/
structure Fr (mods : List Nat) (w w' : World) : Prop where
  os : w'.os = w.os
  tape : w'.tape = w.tape
  output : w'.output = w.output
  size : w.heap.size ≤ w'.heap.size
  block : ∀ k, k < w.heap.size → k ∉ mods → w'.heap[k]? = w.heap[k]?

theorem Fr.refl (mods : List Nat) (w : World) : Fr mods w w := ⟨rfl, rfl, rfl, Nat.le_refl _, fun _ _ _ => rfl⟩
theorem Fr.trans {mods : List Nat} {a b c : World} (h : Fr mods a b) (k : Fr mods b c) : Fr mods a c :=
  ⟨k.os.trans h.os, k.tape.trans h.tape, k.output.trans h.output, Nat.le_trans h.size k.size,
   fun i hi hm => (k.block i (Nat.lt_of_lt_of_le hi h.size) hm).trans (h.block i hi hm)⟩
theorem Fr.mono {mods mods' : List Nat} {a b : World} (h : Fr mods a b) (hs : ∀ x ∈ mods, x ∈ mods') : Fr mods' a b :=
  ⟨h.os, h.tape, h.output, h.size, fun i hi hm => h.block i hi (fun hx => hm (hs i hx))⟩
theorem Fr.below {w w' : World} (h : Fr [] w w') : Go.RowKit.Below w.heap.size w w' :=
  ⟨h.os, h.tape, h.output, h.size, fun k hk => h.block k hk (by simp)⟩
theorem Fr.of_below {w w' : World} (h : Go.RowKit.Below w.heap.size w w') : Fr [] w w' :=
  ⟨h.os, h.tape, h.output, h.size, fun k hk _ => h.block k hk⟩
/-- A step that turns blocks which are new since w, or named. -/
theorem Fr.step {mods m2 : List Nat} {a b c : World} (h : Fr mods a b) (k : Fr m2 b c) (hm : ∀ x ∈ m2, a.heap.size ≤ x ∨ x ∈ mods) : Fr mods a c :=
  ⟨k.os.trans h.os, k.tape.trans h.tape, k.output.trans h.output, Nat.le_trans h.size k.size,
   fun i hi hn => (k.block i (Nat.lt_of_lt_of_le hi h.size) (fun hx => (hm i hx).elim (fun h1 => by omega) hn)).trans (h.block i hi hn)⟩
theorem Fr.alloc (w : World) (o : Obj) : Fr [] w (w.alloc o) :=
  ⟨rfl, rfl, rfl, by simp, fun k hk _ => Go.RowKit.Below.heap_alloc _ _ _ hk⟩
theorem Fr.drew (w : World) : Fr [] w { w with drawn := w.drawn + 1 } := ⟨rfl, rfl, rfl, Nat.le_refl _, fun _ _ _ => rfl⟩
theorem Fr.setRow {w : World} {b : Nat} (cs : Array Value) : Fr [b] w (w.setRow b cs) :=
  ⟨rfl, rfl, rfl, by simp, fun k hk hm => setRow_other w b k cs (by intro e; exact hm (by simp [e]))⟩

/-- What is known of blocks that nobody in sight will turn. -/
structure Fact where
  fp : Nat → Prop
  p : World → Prop
  dep : ∀ w w' : World, (∀ k, fp k → w'.heap[k]? = w.heap[k]?) → p w → p w'

abbrev Mem := List (Nat × Obj)

structure St where
  env : Env
  mem : Mem := []
  facts : List Fact := []
  ds : List Deferred := []

structure Cx where
  P : Program
  w0 : World
  nt : Nat
  mods : List Nat := []
  ro : Option Nat := none

structure OkW (cx : Cx) (m : Mem) (fs : List Fact) (w : World) : Prop where
  mem : ∀ b o, (b, o) ∈ m → w.heap[b]? = some o
  dis : (m.map (·.1)).Nodup
  may : ∀ b ∈ m.map (·.1), cx.w0.heap.size ≤ b ∨ b ∈ cx.mods
  facts : ∀ f ∈ fs, f.p w ∧ (∀ k, f.fp k → k < w.heap.size ∧ k ∉ m.map (·.1))
  fr : Fr cx.mods cx.w0 w

structure OkA (cx : Cx) (e : Env) (dl : List Deferred) (a : Act) : Prop where
  env : ∀ k v, get e k = some v → a.tmps.getD k undef = v
  size : a.tmps.size = cx.nt
  ds : a.defers = dl

structure Ok (cx : Cx) (st : St) (a : Act) (w : World) : Prop where
  a : OkA cx st.env st.ds a
  w : OkW cx st.mem st.facts w

theorem OkA.ev {cx : Cx} {env : Env} {ds : List Deferred} {a : Act} (h : OkA cx env ds a) {x : Operand} {v : Value} (hx : Sx.ev env x = some v) : a.eval x = v := by
  cases x with
  | tmp t => exact h.env t v hx
  | const c => injection hx
  | global g => injection hx
  | func f => injection hx

theorem OkA.evs {cx : Cx} {env : Env} {ds : List Deferred} {a : Act} (h : OkA cx env ds a) : ∀ {l : List Operand} {vs : List Value}, Sx.evs env l = some vs → l.map a.eval = vs
  | [], vs, hx => by injection hx
  | x :: r, vs, hx => by
    unfold Sx.evs at hx
    split at hx
    · rename_i v vs' h1 h2
      injection hx with hx
      subst hx
      rw [List.map_cons, h.ev h1, h.evs h2]
    · cases hx

theorem OkA.put {cx : Cx} {env : Env} {ds : List Deferred} {a : Act} (h : OkA cx env ds a) {d : Nat} (hd : Nat.blt d cx.nt = true) (v : Value) : OkA cx ((d, v) :: env) ds (a.put (some d) v) := by
  have hd' : d < a.tmps.size := by rw [h.size]; simpa [Nat.blt_eq] using hd
  refine ⟨fun k u hk => ?_, by simpa [Act.put] using h.size, h.ds⟩
  unfold get at hk
  split at hk
  · rename_i e
    have : d = k := Nat.eq_of_beq_eq_true e
    subst this
    injection hk with hk
    subst hk
    simp [Act.put, Array.getElem?_setIfInBounds, hd']
  · rename_i e
    have hne : d ≠ k := fun h => by subst h; simp at e
    have := h.env k u hk
    simpa [Act.put, Array.getElem?_setIfInBounds, hne] using this

theorem OkA.sub {cx : Cx} {env env' : Env} {ds : List Deferred} {a : Act} (h : OkA cx env ds a) (hs : Sx.sub env' env) : OkA cx env' ds a :=
  ⟨fun k v hk => h.env k v (sub_get hs hk), h.size, h.ds⟩

theorem OkW.sub {cx : Cx} {mem mem' : Mem} {fs fs' : List Fact} {w : World} (h : OkW cx mem fs w) (hm : List.Sublist mem' mem) (hf : ∀ f ∈ fs', f ∈ fs) : OkW cx mem' fs' w :=
  ⟨fun b o hb => h.mem b o (hm.subset hb), (hm.map _).nodup h.dis, fun b hb => h.may b ((hm.map _).subset hb),
   fun f hf' => ⟨(h.facts f (hf f hf')).1, fun k hk => ⟨((h.facts f (hf f hf')).2 k hk).1, fun hk2 => ((h.facts f (hf f hf')).2 k hk).2 ((hm.map _).subset hk2)⟩⟩, h.fr⟩

theorem OkW.lt {cx : Cx} {mem : Mem} {fs : List Fact} {w : World} (h : OkW cx mem fs w) {b : Nat} (hb : b ∈ mem.map (·.1)) : b < w.heap.size := by
  obtain ⟨⟨b', o⟩, hm, rfl⟩ := List.mem_map.1 hb
  exact (Array.getElem?_eq_some_iff.1 (h.mem _ _ hm)).1

theorem OkW.at {cx : Cx} {mem : Mem} {fs : List Fact} {w : World} (h : OkW cx mem fs w) {i b : Nat} {o : Obj} (hi : mem[i]? = some (b, o)) : w.heap[b]? = some o :=
  h.mem b o (List.mem_of_getElem? hi)

/-- The new blocks, and what turned: the general step of the world. -/
theorem OkW.step {cx : Cx} {mem : Mem} {fs : List Fact} {w w' : World} (h : OkW cx mem fs w) {mods : List Nat} (hfr : Fr mods w w')
    {mem' : Mem} {fs' : List Fact} (hmods : ∀ b ∈ mods, b ∈ mem.map (·.1))
    (hmem : ∀ b o, (b, o) ∈ mem' → w'.heap[b]? = some o ∧ (w.heap.size ≤ b ∨ b ∈ mem.map (·.1))) (hdis : (mem'.map (·.1)).Nodup)
    (hfs : ∀ f ∈ fs', f ∈ fs ∨ (f.p w' ∧ ∀ k, f.fp k → k < w'.heap.size ∧ k ∉ mem'.map (·.1))) : OkW cx mem' fs' w' := by
  refine ⟨fun b o hb => (hmem b o hb).1, hdis, fun b hb => ?_, fun f hf => ?_, ?_⟩
  · obtain ⟨⟨b', o⟩, hm, rfl⟩ := List.mem_map.1 hb
    rcases (hmem _ _ hm).2 with h1 | h1
    · exact .inl (Nat.le_trans h.fr.size h1)
    · exact h.may _ h1
  · rcases hfs f hf with h1 | h1
    · obtain ⟨h2, h3⟩ := h.facts f h1
      refine ⟨f.dep w w' (fun k hk => hfr.block k (h3 k hk).1 (fun hm => (h3 k hk).2 (hmods k hm))) h2, fun k hk => ⟨Nat.lt_of_lt_of_le (h3 k hk).1 hfr.size, fun hm => ?_⟩⟩
      obtain ⟨⟨b', o⟩, hm', rfl⟩ := List.mem_map.1 hm
      rcases (hmem _ _ hm').2 with h4 | h4
      · have := (h3 _ hk).1
        omega
      · exact (h3 _ hk).2 h4
    · exact h1
  · exact h.fr.step hfr (fun x hx => h.may x (hmods x hx))

theorem OkW.fr0 {cx : Cx} {mem : Mem} {fs : List Fact} {w w' : World} (h : OkW cx mem fs w) (hfr : Fr [] w w') : OkW cx mem fs w' :=
  h.step hfr (by simp) (fun b o hb => ⟨(hfr.block b (h.lt (List.mem_map.2 ⟨_, hb, rfl⟩)) (by simp)).trans (h.mem b o hb), .inr (List.mem_map.2 ⟨_, hb, rfl⟩)⟩) h.dis (fun f hf => .inl hf)

/-- One more block. -/
theorem OkW.alloc {cx : Cx} {mem : Mem} {fs : List Fact} {w : World} (h : OkW cx mem fs w) (o : Obj) : OkW cx (mem ++ [(w.heap.size, o)]) fs (w.alloc o) := by
  have hfr := Fr.alloc w o
  have hnew : ∀ b ∈ mem.map (·.1), b ≠ w.heap.size := fun b hb => Nat.ne_of_lt (h.lt hb)
  refine h.step hfr (by simp) (fun b p hb => ?_) ?_ (fun f hf => .inl hf)
  · rcases List.mem_append.1 hb with h1 | h1
    · exact ⟨(hfr.block b (h.lt (List.mem_map.2 ⟨_, h1, rfl⟩)) (by simp)).trans (h.mem b p h1), .inr (List.mem_map.2 ⟨_, h1, rfl⟩)⟩
    · simp only [List.mem_singleton, Prod.mk.injEq] at h1
      obtain ⟨rfl, rfl⟩ := h1
      exact ⟨heap_alloc_new w p, .inl (Nat.le_refl _)⟩
  · rw [List.map_append, List.nodup_append]
    refine ⟨h.dis, by simp, fun a ha b hb => ?_⟩
    simp only [List.map_cons, List.map_nil, List.mem_singleton] at hb
    subst hb
    exact hnew a ha

theorem nodup_set {mem : Mem} {i b : Nat} {o o' : Obj} (hi : mem[i]? = some (b, o)) : (mem.set i (b, o')).map (·.1) = mem.map (·.1) := by
  rw [List.map_set]
  apply List.ext_getElem?
  intro j
  by_cases hj : i = j
  · subst hj
    have hlt := (List.getElem?_eq_some_iff.1 hi).1
    have e := (List.getElem?_eq_some_iff.1 hi).2
    simp [List.getElem?_set, hlt, e]
  · simp [List.getElem?_set, hj]

theorem key_unique {mem : Mem} (hd : (mem.map (·.1)).Nodup) {i j b : Nat} {o o' : Obj} (hi : mem[i]? = some (b, o)) (hj : mem[j]? = some (b, o')) : i = j := by
  have hli := (List.getElem?_eq_some_iff.1 hi).1
  have h1 : (mem.map (·.1))[i]? = some b := by simp [hi]
  have h2 : (mem.map (·.1))[j]? = some b := by simp [hj]
  exact (List.getElem?_inj (by simpa using hli) hd).1 (h1.trans h2.symm)

/-- A block of the call's own is turned. -/
theorem OkW.set {cx : Cx} {mem : Mem} {fs : List Fact} {w w' : World} (h : OkW cx mem fs w) {i b : Nat} {o o' : Obj} (hi : mem[i]? = some (b, o)) (hfr : Fr [b] w w') (ho : w'.heap[b]? = some o') :
    OkW cx (mem.set i (b, o')) fs w' := by
  have hb : b ∈ mem.map (·.1) := List.mem_map.2 ⟨_, List.mem_of_getElem? hi, rfl⟩
  refine h.step hfr (by simpa using hb) (fun b' p hb' => ?_) (by rw [nodup_set hi]; exact h.dis) (fun f hf => .inl hf)
  obtain ⟨j, hj⟩ := List.mem_iff_getElem?.1 hb'
  by_cases hij : i = j
  · subst hij
    have hlt := (List.getElem?_eq_some_iff.1 hi).1
    simp only [List.getElem?_set, hlt, if_true, Option.some.injEq, Prod.mk.injEq] at hj
    obtain ⟨rfl, rfl⟩ := hj
    exact ⟨ho, .inr hb⟩
  · rw [List.getElem?_set_ne hij] at hj
    have hne : b' ≠ b := fun e => by subst e; exact hij (key_unique h.dis hi hj)
    have hm := List.mem_of_getElem? hj
    exact ⟨(hfr.block b' (h.lt (List.mem_map.2 ⟨_, hm, rfl⟩)) (by simpa using hne)).trans (h.mem b' p hm), .inr (List.mem_map.2 ⟨_, hm, rfl⟩)⟩

/-! ### The judgements -/
def fen (ro : Option Nat) : Fence := { Fence.wide with round := ro }

/-- The code leads, from every state that the description fits, to a state that one of K's descriptions fits. -/
def J (cx : Cx) (c : Code) (K : Exit → St → Prop) (st : St) : Prop :=
  ∀ a w, Ok cx st a w → c.wpIn (fen cx.ro) 0 cx.P (fun e a w => ∃ st', Ok cx st' a w ∧ K e st') a w

def L (cx : Cx) (ops : Array Oper) (K : St → Prop) (l : List Oper) (st : St) : Prop :=
  ∀ (Q : Exit → Act → World → Prop) a w, Ok cx st a w → (∀ st' a' w', Ok cx st' a' w' → K st' → Q .normal a' w') → wpListIn (fen cx.ro) 0 cx.P ops Q l a w

/-- One operation. -/
def S (cx : Cx) (o : Oper) (K : St → Prop) (st : St) : Prop :=
  ∀ (Q : Exit → Act → World → Prop) (next : Act → World → Prop) a w, Ok cx st a w → (∀ st' a' w', Ok cx st' a' w' → K st' → next a' w') → o.wpIn (fen cx.ro) 0 cx.P a w next Q

/-- The operation gives this value, and turns nothing. -/
def V (cx : Cx) (o : Oper) (st : St) (v : Value) : Prop :=
  (∀ c, o.op ≠ .defer c) ∧ ∀ a w, Ok cx st a w → (execOp a.eval o).run cx.P w = .ok (.value v) w

def St.put (st : St) (d : Nat) (v : Value) : St := { st with env := (d, v) :: st.env }

theorem Ok.put {cx : Cx} {st : St} {a : Act} {w : World} (h : Ok cx st a w) {d : Nat} (hd : Nat.blt d cx.nt = true) (v : Value) : Ok cx (st.put d v) (a.put (some d) v) w :=
  ⟨h.a.put hd v, h.w⟩

def Exit.thenS (next : St → Prop) (K : Exit → St → Prop) : Exit → St → Prop
  | .normal, st => next st
  | e, st => K e st

def Exit.inBlockS (id : Nat) (K : Exit → St → Prop) : Exit → St → Prop
  | .exit id', st => if id' = id then K .normal st else K (.exit id') st
  | e, st => K e st

section code
variable {cx : Cx} {K : Exit → St → Prop} {st : St}

theorem J.mono {c : Code} {K' : Exit → St → Prop} (h : J cx c K st) (hk : ∀ e s, K e s → K' e s) : J cx c K' st :=
  fun a w ho => Go.wpIn_mono (h a w ho) fun e a w ⟨s, h1, h2⟩ => ⟨s, h1, hk e s h2⟩

theorem J_seq {x y : Code} (h : J cx x (Exit.thenS (J cx y K) K) st) : J cx (.seq x y) K st := by
  intro a w ho
  refine wpIn_seq (Go.wpIn_mono (h a w ho) ?_)
  intro e a' w' ⟨s, h1, h2⟩
  cases e with
  | normal => exact h2 a' w' h1
  | exit id => exact ⟨s, h1, h2⟩
  | goto l => exact ⟨s, h1, h2⟩
  | ret => exact ⟨s, h1, h2⟩
  | panic c => exact ⟨s, h1, h2⟩
  | outgrown => exact ⟨s, h1, h2⟩

theorem J_skip (h : K .normal st) : J cx .skip K st := fun a w ho => wpIn_skip ⟨st, ho, h⟩
theorem J_label {l : Nat} (h : K .normal st) : J cx (.label l) K st := fun a w ho => wpIn_label ⟨st, ho, h⟩
theorem J_exit {id : Nat} (h : K (.exit id) st) : J cx (.exit id) K st := fun a w ho => wpIn_exit ⟨st, ho, h⟩
theorem J_ret (h : K .ret st) : J cx .ret K st := fun a w ho => wpIn_ret ⟨st, ho, h⟩

theorem J_block {id : Nat} {c : Code} (h : J cx c (Exit.inBlockS id K) st) : J cx (.block id c) K st := by
  intro a w ho
  refine wpIn_block (Go.wpIn_mono (h a w ho) ?_)
  intro e a' w' ⟨s, h1, h2⟩
  cases e with
  | exit id' =>
    simp only [Exit.inBlock, Exit.inBlockS] at h2 ⊢
    split at h2 <;> rename_i hid
    · rw [if_pos hid]; exact ⟨s, h1, h2⟩
    · rw [if_neg hid]; exact ⟨s, h1, h2⟩
  | normal => exact ⟨s, h1, h2⟩
  | goto l => exact ⟨s, h1, h2⟩
  | ret => exact ⟨s, h1, h2⟩
  | panic c => exact ⟨s, h1, h2⟩
  | outgrown => exact ⟨s, h1, h2⟩

theorem J_cond {c : Operand} {x y : Code} {b : Bool} (hc : ev st.env c = some (.bool b)) (ht : b = true → J cx x K st) (hf : b = false → J cx y K st) : J cx (.cond c x y) K st := by
  intro a w ho
  exact wpIn_cond_split (ho.a.ev hc) (fun h => ht h a w ho) (fun h => hf h a w ho)

theorem J_true {c : Operand} {x y : Code} (hc : ev st.env c = some (.bool true)) (h : J cx x K st) : J cx (.cond c x y) K st :=
  J_cond hc (fun _ => h) (fun e => by cases e)
theorem J_false {c : Operand} {x y : Code} (hc : ev st.env c = some (.bool false)) (h : J cx y K st) : J cx (.cond c x y) K st :=
  J_cond hc (fun e => by cases e) (fun _ => h)

/-- The description is narrowed to what is wanted later. -/
def Le (st' st : St) : Prop := sub st'.env st.env ∧ List.Sublist st'.mem st.mem ∧ (∀ f ∈ st'.facts, f ∈ st.facts) ∧ st'.ds = st.ds

theorem Ok.le {a : Act} {w : World} (h : Ok cx st a w) {st' : St} (hl : Le st' st) : Ok cx st' a w :=
  ⟨by rw [hl.2.2.2]; exact h.a.sub hl.1, h.w.sub hl.2.1 hl.2.2.1⟩

theorem J_le {c : Code} {st' : St} (hl : Le st' st) (h : J cx c K st') : J cx c K st := fun a w ho => h a w (ho.le hl)

/-- A loop: a family of descriptions, one of which fits at each round's head. -/
theorem J_loop {c : Code} {X : Type} (s : X → St) (I : X → Prop) (μ : X → Nat) (x0 : X) (h0 : I x0) (hl : Le (s x0) st)
    (round : ∀ x, I x → J cx c (Exit.thenS (fun st' => ∃ x', I x' ∧ μ x' < μ x ∧ Le (s x') st') K) (s x)) : J cx (.loop c) K st := by
  intro a w ho
  have key : ∀ n x, μ x < n → I x → ∀ a w, Ok cx (s x) a w → Code.roundsIn (fen cx.ro) 0 cx.P c (fun e a w => ∃ st', Ok cx st' a w ∧ K e st') n a w := by
    intro n
    induction n with
    | zero => intro x hx; omega
    | succ n ih =>
      intro x hx hI a w hw
      refine Go.wpIn_mono (round x hI a w hw) ?_
      intro e a' w' ⟨s', h1, h2⟩
      cases e with
      | normal =>
        obtain ⟨x', hI', hlt, hle⟩ := h2
        exact ih x' (by omega) hI' a' w' (h1.le hle)
      | exit id => exact ⟨s', h1, h2⟩
      | goto l => exact ⟨s', h1, h2⟩
      | ret => exact ⟨s', h1, h2⟩
      | panic c => exact ⟨s', h1, h2⟩
      | outgrown => exact ⟨s', h1, h2⟩
  exact wpIn_loop_rounds (μ x0 + 1) (key _ x0 (Nat.lt_succ_self _) h0 a w (ho.le hl))
end code

section list
variable {cx : Cx} {ops : Array Oper} {K : St → Prop} {o : Oper} {rest : List Oper} {st : St}

theorem J_region {Kx : Exit → St → Prop} {id : Nat} {l : List Oper} (h : L cx l.toArray (Kx .normal) l st) : J cx (.region id l.toArray false) Kx st :=
  fun a w ho => wpIn_region_lit (h _ a w ho (fun st' a' w' h1 h2 => ⟨st', h1, h2⟩))
theorem L_nil (h : K st) : L cx ops K [] st := fun Q a w ho hk => wpListIn_nil (hk st a w ho h)
theorem L_le {l : List Oper} {st' : St} (hl : Le st' st) (h : L cx ops K l st') : L cx ops K l st := fun Q a w ho hk => h Q a w (ho.le hl) hk
theorem L_mono {l : List Oper} {K' : St → Prop} (h : L cx ops K l st) (hk : ∀ s, K s → K' s) : L cx ops K' l st :=
  fun Q a w ho hk' => h Q a w ho (fun s a' w' h1 h2 => hk' s a' w' h1 (hk s h2))

theorem L_cons (hg : o.guard = none) (h : S cx o (L cx ops K rest) st) : L cx ops K (o :: rest) st :=
  fun Q a w ho hk => wpListIn_plain hg fun K' hK' => h Q K' a w ho (fun st' a' w' h1 h2 => hK' _ _ (h2 Q a' w' h1 hk))

theorem tmps_of {e : Env} {ds : List Deferred} {a : Act} (h : OkA cx e ds a) {d : Nat} {v : Value} (hd : Nat.blt d cx.nt = true) (hv : get e d = some v) : a.tmps[d]? = some v := by
  have hd' : d < a.tmps.size := by rw [h.size]; simpa [Nat.blt_eq] using hd
  have := h.env d v hv
  rw [Array.getElem?_eq_getElem hd']
  simpa [Array.getD, hd'] using this

def isB (want : Bool) : Value → Bool
  | .bool b => b == want
  | _ => false

theorem wanted_eq {e : Env} {ds : List Deferred} {a : Act} (h : OkA cx e ds a) {j d : Nat} {want : Bool} {v : Value} (hg : o.guard = some (j, want)) (hj : (ops[j]?).bind (·.dst) = some d)
    (hd : Nat.blt d cx.nt = true) (hv : get e d = some v) : Region.wanted o (yielded ops a.tmps) = isB want v := by
  have ht := tmps_of h hd hv
  simp only [Region.wanted, hg, yielded, hj, Option.bind_some, ht]
  cases v <;> simp [isB]

/-- A guarded operation that is carried out. -/
theorem L_want {j d : Nat} {want : Bool} (hg : o.guard = some (j, want)) (hj : (ops[j]?).bind (·.dst) = some d) (hd : Nat.blt d cx.nt = true)
    (hv : get st.env d = some (.bool want)) (h : S cx o (L cx ops K rest) st) : L cx ops K (o :: rest) st :=
  fun Q a w ho hk => wpListIn_step fun K' hK' => by
    rw [wanted_eq ho.a hg hj hd hv]
    simp only [isB, beq_self_eq_true, if_true]
    exact h Q K' a w ho (fun st' a' w' h1 h2 => hK' _ _ (h2 Q a' w' h1 hk))

/-- A guarded operation that is passed over. -/
theorem L_skip {j d t : Nat} {want : Bool} {v : Value} (hg : o.guard = some (j, want)) (hj : (ops[j]?).bind (·.dst) = some d) (hd : Nat.blt d cx.nt = true)
    (hv : get st.env d = some v) (hb : isB want v = false) (ht : o.dst = some t) (htl : Nat.blt t cx.nt = true) (h : L cx ops K rest (st.put t undef)) : L cx ops K (o :: rest) st :=
  fun Q a w ho hk => wpListIn_step fun K' hK' => by
    rw [wanted_eq ho.a hg hj hd hv, hb]
    simp only [Bool.false_eq_true, if_false, ht]
    exact ⟨fun _ _ => trivial, hK' _ _ (h Q _ w (ho.put htl undef) hk)⟩
theorem L_skip0 {j d : Nat} {want : Bool} {v : Value} (hg : o.guard = some (j, want)) (hj : (ops[j]?).bind (·.dst) = some d) (hd : Nat.blt d cx.nt = true)
    (hv : get st.env d = some v) (hb : isB want v = false) (ht : o.dst = none) (h : L cx ops K rest st) : L cx ops K (o :: rest) st :=
  fun Q a w ho hk => wpListIn_step fun K' hK' => by
    rw [wanted_eq ho.a hg hj hd hv, hb]
    simp only [Bool.false_eq_true, if_false, ht]
    exact ⟨fun _ _ => trivial, hK' _ _ (h Q _ w ho hk)⟩

theorem put_same {e : Env} {ds : List Deferred} {a : Act} (h : OkA cx e ds a) {d : Nat} {v : Value} (hv : get e d = some v) : OkA cx ((d, v) :: e) ds a :=
  ⟨fun k u hk => by
    unfold get at hk
    split at hk
    · rename_i e
      have : d = k := Nat.eq_of_beq_eq_true e
      subst this
      injection hk with hk
      subst hk
      exact h.env _ _ hv
    · exact h.env k u hk, h.size, h.ds⟩

/-- The ways part on a bool that a slot holds. -/
theorem L_split {l : List Oper} (s : Nat) {b : Bool} (hs : get st.env s = some (.bool b)) (ht : b = true → L cx ops K l (st.put s (.bool true))) (hf : b = false → L cx ops K l (st.put s (.bool false))) :
    L cx ops K l st := by
  intro Q a w ho hk
  cases b with
  | true => exact ht rfl Q a w ⟨put_same ho.a hs, ho.w⟩ hk
  | false => exact hf rfl Q a w ⟨put_same ho.a hs, ho.w⟩ hk

/-- A slot's value in another spelling. -/
theorem L_same {l : List Oper} (s : Nat) {v v' : Value} (hs : get st.env s = some v) (e : v = v') (h : L cx ops K l (st.put s v')) : L cx ops K l st :=
  fun Q a w ho hk => h Q a w ⟨put_same ho.a (e ▸ hs), ho.w⟩ hk

theorem wpIn_value {Q : Exit → Act → World → Prop} {next : Act → World → Prop} {a : Act} {w w' : World} {v : Value} (hnd : ∀ c, o.op ≠ .defer c) (hr : (execOp a.eval o).run cx.P w = .ok (.value v) w') (h : next (a.put o.dst v) w') :
    o.wpIn (fen cx.ro) 0 cx.P a w next Q :=
  ⟨fun _ _ => trivial, by rw [Oper.semAt_eq _ _ _ hnd, hr]; exact h⟩
theorem wpIn_skip' {Q : Exit → Act → World → Prop} {next : Act → World → Prop} {a : Act} {w w' : World} (hnd : ∀ c, o.op ≠ .defer c) (hr : (execOp a.eval o).run cx.P w = .ok .skip w') (h : next (a.put o.dst undef) w') :
    o.wpIn (fen cx.ro) 0 cx.P a w next Q :=
  ⟨fun _ _ => trivial, by rw [Oper.semAt_eq _ _ _ hnd, hr]; exact h⟩

theorem S_v {d : Nat} {v : Value} (hd : o.dst = some d) (hlt : Nat.blt d cx.nt = true) (hv : V cx o st v) (h : K (st.put d v)) : S cx o K st :=
  fun Q next a w ho hk => wpIn_value hv.1 (hv.2 a w ho) (by rw [hd]; exact hk _ _ _ (ho.put hlt v) h)

/-- One operation that gives a value: the commonest step. -/
theorem L_v {d : Nat} {v : Value} (hg : o.guard = none) (hd : o.dst = some d) (hlt : Nat.blt d cx.nt = true) (hv : V cx o st v) (h : L cx ops K rest (st.put d v)) : L cx ops K (o :: rest) st :=
  L_cons hg (S_v hd hlt hv h)
theorem L_wv {d j dj : Nat} {want : Bool} {v : Value} (hg : o.guard = some (j, want)) (hj : (ops[j]?).bind (·.dst) = some dj) (hdj : Nat.blt dj cx.nt = true)
    (hvj : get st.env dj = some (.bool want)) (hd : o.dst = some d) (hlt : Nat.blt d cx.nt = true) (hv : V cx o st v) (h : L cx ops K rest (st.put d v)) : L cx ops K (o :: rest) st :=
  L_want hg hj hdj hvj (S_v hd hlt hv h)
end list

section values
variable {cx : Cx} {o : Oper} {st : St}

theorem V_move {x : Operand} {v : Value} (ho : o.op = .move x) (hx : ev st.env x = some v) : V cx o st v :=
  ⟨fun c => by rw [ho]; exact fun h => (by cases h), fun a w h => by unfold execOp; rw [ho]; simp only [h.a.ev hx]; rfl⟩
theorem V_assign {x : Operand} {v : Value} (ho : o.op = .assign x) (hx : ev st.env x = some v) : V cx o st v :=
  ⟨fun c => by rw [ho]; exact fun h => (by cases h), fun a w h => by unfold execOp; rw [ho]; simp only [h.a.ev hx]; rfl⟩
theorem V_pickT {c x y : Operand} {v : Value} (ho : o.op = .pick c x y) (hc : ev st.env c = some (.bool true)) (hx : ev st.env x = some v) : V cx o st v :=
  ⟨fun c => by rw [ho]; exact fun h => (by cases h), fun a w h => by unfold execOp; rw [ho]; simp only [h.a.ev hx, h.a.ev hc]; rfl⟩
theorem V_pickF {c x y : Operand} {v : Value} (ho : o.op = .pick c x y) (hc : ev st.env c = some (.bool false)) (hy : ev st.env y = some v) : V cx o st v :=
  ⟨fun c => by rw [ho]; exact fun h => (by cases h), fun a w h => by unfold execOp; rw [ho]; simp only [h.a.ev hy, h.a.ev hc]; rfl⟩

theorem V_bin {op : BinOp} {t yt : TypeId} {x y : Operand} {k k' : IntKind} {m n : Int} {v : Value} (ho : o.op = .binOp op t x y yt) (hx : ev st.env x = some (.int k m)) (hy : ev st.env y = some (.int k' n))
    (hr : ∀ w, (binOp op t (.int k m) (.int k' n)).run cx.P w = .ok v w) : V cx o st v :=
  ⟨fun c => by rw [ho]; exact fun h => (by cases h), fun a w h => by
    unfold execOp
    rw [ho]
    simp only [h.a.ev hx, h.a.ev hy, Sem.run_bind]
    have hg : (eqGuard op t x y (.int k m) (.int k' n)).run cx.P w = .ok () w := by
      unfold eqGuard
      cases op <;> rfl
    rw [hg]
    simp only [Result.andThen, hr w]
    rfl⟩

theorem V_add {t yt : TypeId} {x y : Operand} {k : IntKind} {m n r : Int} (ho : o.op = .binOp .add t x y yt) (hx : ev st.env x = some (.int k m)) (hy : ev st.env y = some (.int k n)) (hr : k.wrap (m + n) = r) : V cx o st (.int k r) :=
  V_bin ho hx hy fun w => by subst hr; simp [binOp, Op.intArith]
theorem V_sub {t yt : TypeId} {x y : Operand} {k : IntKind} {m n r : Int} (ho : o.op = .binOp .sub t x y yt) (hx : ev st.env x = some (.int k m)) (hy : ev st.env y = some (.int k n)) (hr : k.wrap (m - n) = r) : V cx o st (.int k r) :=
  V_bin ho hx hy fun w => by subst hr; simp [binOp, Op.intArith]
theorem V_mul {t yt : TypeId} {x y : Operand} {k : IntKind} {m n r : Int} (ho : o.op = .binOp .mul t x y yt) (hx : ev st.env x = some (.int k m)) (hy : ev st.env y = some (.int k n)) (hr : k.wrap (m * n) = r) : V cx o st (.int k r) :=
  V_bin ho hx hy fun w => by subst hr; simp [binOp, Op.intArith]
theorem V_quo {t yt : TypeId} {x y : Operand} {k : IntKind} {m n r : Int} (ho : o.op = .binOp .quo t x y yt) (hx : ev st.env x = some (.int k m)) (hy : ev st.env y = some (.int k n)) (hn : n ≠ 0) (hr : k.wrap (m.tdiv n) = r) : V cx o st (.int k r) :=
  V_bin ho hx hy fun w => by subst hr; simp [binOp, Op.intDiv, hn]
theorem V_rem {t yt : TypeId} {x y : Operand} {k : IntKind} {m n r : Int} (ho : o.op = .binOp .rem t x y yt) (hx : ev st.env x = some (.int k m)) (hy : ev st.env y = some (.int k n)) (hn : n ≠ 0) (hr : m.tmod n = r) : V cx o st (.int k r) :=
  V_bin ho hx hy fun w => by subst hr; simp [binOp, Op.intDiv, hn]
theorem V_lss {t yt : TypeId} {x y : Operand} {k : IntKind} {m n : Int} {r : Bool} (ho : o.op = .binOp .lss t x y yt) (hx : ev st.env x = some (.int k m)) (hy : ev st.env y = some (.int k n)) (hr : decide (m < n) = r) : V cx o st (.bool r) :=
  V_bin ho hx hy fun w => by subst hr; simp [binOp, Op.intCmp]
theorem V_leq {t yt : TypeId} {x y : Operand} {k : IntKind} {m n : Int} {r : Bool} (ho : o.op = .binOp .leq t x y yt) (hx : ev st.env x = some (.int k m)) (hy : ev st.env y = some (.int k n)) (hr : decide (m ≤ n) = r) : V cx o st (.bool r) :=
  V_bin ho hx hy fun w => by subst hr; simp [binOp, Op.intCmp]
theorem V_gtr {t yt : TypeId} {x y : Operand} {k : IntKind} {m n : Int} {r : Bool} (ho : o.op = .binOp .gtr t x y yt) (hx : ev st.env x = some (.int k m)) (hy : ev st.env y = some (.int k n)) (hr : decide (n < m) = r) : V cx o st (.bool r) :=
  V_bin ho hx hy fun w => by subst hr; simp [binOp, Op.intCmp]
theorem V_geq {t yt : TypeId} {x y : Operand} {k : IntKind} {m n : Int} {r : Bool} (ho : o.op = .binOp .geq t x y yt) (hx : ev st.env x = some (.int k m)) (hy : ev st.env y = some (.int k n)) (hr : decide (n ≤ m) = r) : V cx o st (.bool r) :=
  V_bin ho hx hy fun w => by subst hr; simp [binOp, Op.intCmp]
theorem V_eql {t yt : TypeId} {x y : Operand} {k : IntKind} {m n : Int} {r : Bool} (ho : o.op = .binOp .eql t x y yt) (hx : ev st.env x = some (.int k m)) (hy : ev st.env y = some (.int k n)) (hr : decide (m = n) = r) : V cx o st (.bool r) :=
  V_bin ho hx hy fun w => by subst hr; simp [binOp, Op.intCmp]; rfl
theorem V_neq {t yt : TypeId} {x y : Operand} {k : IntKind} {m n : Int} {r : Bool} (ho : o.op = .binOp .neq t x y yt) (hx : ev st.env x = some (.int k m)) (hy : ev st.env y = some (.int k n)) (hr : decide (m ≠ n) = r) : V cx o st (.bool r) :=
  V_bin ho hx hy fun w => by subst hr; simp [binOp, Op.intCmp]; rfl

def bits2 (op : BinOp) (k : IntKind) (x y : Int) : Int :=
  let a := BitVec.ofInt k.bits x
  let b := BitVec.ofInt k.bits y
  match op with
  | .and => k.wrap (a &&& b).toNat
  | .or => k.wrap (a ||| b).toNat
  | .xor => k.wrap (a ^^^ b).toNat
  | _ => k.wrap (a &&& ~~~b).toNat
theorem V_and {t yt : TypeId} {x y : Operand} {k : IntKind} {m n r : Int} (ho : o.op = .binOp .and t x y yt) (hx : ev st.env x = some (.int k m)) (hy : ev st.env y = some (.int k n)) (hr : bits2 .and k m n = r) : V cx o st (.int k r) :=
  V_bin ho hx hy fun w => by subst hr; simp [binOp, Op.intBits, bits2]
theorem V_or {t yt : TypeId} {x y : Operand} {k : IntKind} {m n r : Int} (ho : o.op = .binOp .or t x y yt) (hx : ev st.env x = some (.int k m)) (hy : ev st.env y = some (.int k n)) (hr : bits2 .or k m n = r) : V cx o st (.int k r) :=
  V_bin ho hx hy fun w => by subst hr; simp [binOp, Op.intBits, bits2]
theorem V_xor {t yt : TypeId} {x y : Operand} {k : IntKind} {m n r : Int} (ho : o.op = .binOp .xor t x y yt) (hx : ev st.env x = some (.int k m)) (hy : ev st.env y = some (.int k n)) (hr : bits2 .xor k m n = r) : V cx o st (.int k r) :=
  V_bin ho hx hy fun w => by subst hr; simp [binOp, Op.intBits, bits2]
theorem V_andNot {t yt : TypeId} {x y : Operand} {k : IntKind} {m n r : Int} (ho : o.op = .binOp .andNot t x y yt) (hx : ev st.env x = some (.int k m)) (hy : ev st.env y = some (.int k n)) (hr : bits2 .andNot k m n = r) : V cx o st (.int k r) :=
  V_bin ho hx hy fun w => by subst hr; simp [binOp, Op.intBits, bits2]
theorem V_shl {t yt : TypeId} {x y : Operand} {k k' : IntKind} {m n r : Int} (ho : o.op = .binOp .shl t x y yt) (hx : ev st.env x = some (.int k m)) (hy : ev st.env y = some (.int k' n)) (hn : 0 ≤ n)
    (hr : k.wrap (m * 2 ^ (min n.toNat k.bits)) = r) : V cx o st (.int k r) :=
  V_bin ho hx hy fun w => by subst hr; simp [binOp, Op.shift, Int.not_lt.2 hn]
theorem V_shr {t yt : TypeId} {x y : Operand} {k k' : IntKind} {m n r : Int} (ho : o.op = .binOp .shr t x y yt) (hx : ev st.env x = some (.int k m)) (hy : ev st.env y = some (.int k' n)) (hn : 0 ≤ n)
    (hr : m.fdiv (2 ^ (min n.toNat k.bits)) = r) : V cx o st (.int k r) :=
  V_bin ho hx hy fun w => by subst hr; simp [binOp, Op.shift, Int.not_lt.2 hn]

theorem V_extract {x : Operand} {vs : Array Value} {i : Nat} {v : Value} (ho : o.op = .extract x i) (hx : ev st.env x = some (.tuple vs)) (hi : vs[i]? = some v) : V cx o st v :=
  ⟨fun c => by rw [ho]; exact fun h => (by cases h), fun a w h => by
    unfold execOp; rw [ho]; simp only [h.a.ev hx, Instr.extract, hi]; rfl⟩
theorem V_makeFunc {fn : Fn} {first captured : Array Operand} {f1 c1 : List Value} (ho : o.op = .makeFunc fn first captured) (hf : evs st.env first.toList = some f1) (hc : evs st.env captured.toList = some c1) : V cx o st (.func fn f1.toArray c1.toArray) :=
  ⟨fun c => by rw [ho]; exact fun h => (by cases h), fun a w h => by
    unfold execOp; rw [ho]
    have e1 : first.map a.eval = f1.toArray := Array.ext' (by rw [Array.toList_map, h.a.evs hf])
    have e2 : captured.map a.eval = c1.toArray := Array.ext' (by rw [Array.toList_map, h.a.evs hc])
    simp only [e1, e2, Instr.makeFunc]; rfl⟩
theorem V_conv {src dst : TypeId} {x : Operand} {k k' : IntKind} {d1 : TypeDesc} {n r : Int} (ho : o.op = .convert src dst x) (hx : ev st.env x = some (.int k n)) (hs : cx.P.underlying src = some d1) (hd : cx.P.underlying dst = some (.int k'))
    (hr : k'.wrap n = r) : V cx o st (.int k' r) :=
  ⟨fun c => by rw [ho]; exact fun h => (by cases h), fun a w h => by
    subst hr
    unfold execOp; rw [ho]
    simp only [h.a.ev hx, convert, Sem.run_bind, run_underlying hs, run_underlying hd, Result.andThen]
    simp [Conv.intToInt]⟩
theorem V_build {t : TypeId} {parts : Array (Nat × Operand)} {vs : List (Nat × Value)} {v : Value} (ho : o.op = .build t parts)
    (hp : parts.toList.map (fun p => (p.1, ev st.env p.2)) = vs.map (fun p => (p.1, some p.2))) (hr : ∀ w, (Instr.build t vs.toArray).run cx.P w = .ok v w) : V cx o st v :=
  ⟨fun c => by rw [ho]; exact fun h => (by cases h), fun a w h => by
    unfold execOp; rw [ho]
    have e : parts.map (fun p => (p.1, a.eval p.2)) = vs.toArray := by
      apply Array.ext'
      simp only [Array.toList_map]
      have hl : parts.toList.length = vs.length := by simpa using congrArg List.length hp
      apply List.ext_getElem
      · simpa using hl
      · intro i h1 h2
        have h3 : i < parts.toList.length := by simpa using h1
        have := congrArg (fun l => l[i]?) hp
        simp only [List.getElem?_map, List.getElem?_eq_getElem h3, List.getElem?_eq_getElem (show i < vs.length by simpa using h2), Option.map_some, Option.some.injEq, Prod.mk.injEq] at this
        simp only [List.getElem_map]
        rw [h.a.ev this.2, this.1]
    simp only [e, Sem.run_bind, hr w, Result.andThen]
    rfl⟩
end values

/-! ### What lies in memory -/
/-- A row of cells that may be written. -/
abbrev row (T : TypeId) (l : List Value) : Obj := .cells l.toArray T (0, 0)

section memory
variable {cx : Cx} {o : Oper} {st : St}

theorem add_at (g off j : Nat) : (⟨g, off, none⟩ : Addr).add j = ⟨g, off + j, none⟩ := by unfold Addr.add; split <;> simp_all

theorem cell_of {w : World} {b off : Nat} {cs : Array Value} {T : TypeId} {fz : Nat × Nat} {v : Value} (h : w.heap[b]? = some (.cells cs T fz)) (hv : cs[off]? = some v) : w.cell? ⟨b, off, none⟩ = some v := by
  simp [World.cell?, h, hv]

theorem cellM {m : Mem} {fs : List Fact} {i b off : Nat} {cs : Array Value} {T : TypeId} {fz : Nat × Nat} {v : Value} (hi : m[i]? = some (b, .cells cs T fz)) (hv : cs[off]? = some v) (w : World) (h : OkW cx m fs w) : w.cell? ⟨b, off, none⟩ = some v :=
  cell_of (h.at hi) hv

def scalarB : TypeDesc → Bool
  | .struct _ => false
  | .array _ _ => false
  | _ => true

theorem run_isAgg {P : Program} {t : TypeId} {d : TypeDesc} (hu : P.underlying t = some d) (w : World) : (isAgg t).run P w = .ok (!scalarB d) w := by
  unfold isAgg
  rw [Sem.run_bind, run_underlying hu w]
  cases d <;> rfl

theorem run_loadVar1 {P : Program} {t : TypeId} {d : TypeDesc} (hu : P.underlying t = some d) (hs : scalarB d = true) {a : Addr} {v : Value} {w : World} (hc : w.cell? a = some v) : (loadVar t a).run P w = .ok v w := by
  simp [loadVar, Sem.run_bind, run_isAgg hu, hs, hc]

theorem run_sizeOf {P : Program} {t : TypeId} {n : Nat} (hi : (P.info? t).map (·.size) = some n) (w : World) : (sizeOf t).run P w = .ok n w := by
  cases hq : P.info? t with
  | none => simp [hq] at hi
  | some i =>
    have hs : i.size = n := by simpa [hq] using hi
    simp [sizeOf, typeInfo, hq, hs]

theorem run_loadVarN {P : Program} {t : TypeId} {d : TypeDesc} (hu : P.underlying t = some d) (hs : scalarB d = false) {b off : Nat} {vs : List Value} (hi : (P.info? t).map (·.size) = some vs.length) {w : World}
    (hc : ∀ j v, vs[j]? = some v → w.cell? ⟨b, off + j, none⟩ = some v) : (loadVar t ⟨b, off, none⟩).run P w = .ok (.agg vs.toArray) w := by
  have hl := run_loadCells_list (P := P) w ⟨b, off, none⟩ vs (fun j v hv => by rw [add_at]; exact hc j v hv)
  simp [loadVar, Sem.run_bind, run_isAgg hu, hs, run_sizeOf hi, hl]

theorem nd {op : Op} (ho : o.op = op) (h : ∀ c, op ≠ .defer c) : ∀ c, o.op ≠ .defer c := fun c => by rw [ho]; exact h c

theorem V_load {t : TypeId} {x : Operand} {d : TypeDesc} {a : Addr} {v : Value} (ho : o.op = .load t x) (hx : ev st.env x = some (.pointer (some a))) (hu : cx.P.underlying t = some d) (hs : scalarB d = true)
    (hc : ∀ w, OkW cx st.mem st.facts w → w.cell? a = some v) : V cx o st v :=
  ⟨nd ho (fun c h => by cases h), fun a w h => by
    unfold execOp; rw [ho]
    simp only [h.a.ev hx, Instr.loadAt, Instr.sureAddr, Sem.run_bind, Sem.run_pure, Result.andThen_ok, run_loadVar1 hu hs (hc w h.w)]⟩
/-- One cell of a block of the list. -/
theorem V_load1 {t : TypeId} {x : Operand} {d : TypeDesc} (i : Nat) {b off : Nat} {l : List Value} {T : TypeId} {fz : Nat × Nat} {v : Value} (ho : o.op = .load t x) (hx : ev st.env x = some (.pointer (some ⟨b, off, none⟩)))
    (hi : st.mem[i]? = some (b, .cells l.toArray T fz)) (hu : cx.P.underlying t = some d) (hs : scalarB d = true) (hv : l[off]? = some v) : V cx o st v :=
  V_load ho hx hu hs fun w hw => cellM hi (by simpa using hv) w hw
theorem V_loadN {t : TypeId} {x : Operand} {d : TypeDesc} {b off : Nat} {vs : List Value} (ho : o.op = .load t x) (hx : ev st.env x = some (.pointer (some ⟨b, off, none⟩))) (hu : cx.P.underlying t = some d) (hs : scalarB d = false)
    (hz : (cx.P.info? t).map (·.size) = some vs.length) (hc : ∀ w, OkW cx st.mem st.facts w → ∀ j v, vs[j]? = some v → w.cell? ⟨b, off + j, none⟩ = some v) : V cx o st (.agg vs.toArray) :=
  ⟨nd ho (fun c h => by cases h), fun a w h => by
    unfold execOp; rw [ho]
    simp only [h.a.ev hx, Instr.loadAt, Instr.sureAddr, Sem.run_bind, Sem.run_pure, Result.andThen_ok, run_loadVarN hu hs hz (hc w h.w)]⟩
/-- A whole block of the list. -/
theorem V_loadW {t : TypeId} {x : Operand} {d : TypeDesc} (i : Nat) {b : Nat} {l : List Value} {T : TypeId} {fz : Nat × Nat} (ho : o.op = .load t x) (hx : ev st.env x = some (.pointer (some ⟨b, 0, none⟩)))
    (hi : st.mem[i]? = some (b, .cells l.toArray T fz)) (hu : cx.P.underlying t = some d) (hs : scalarB d = false) (hz : (cx.P.info? t).map (·.size) = some l.length) : V cx o st (.agg l.toArray) :=
  V_loadN ho hx hu hs hz fun w hw j v hv => cellM hi (by simpa using hv) w hw
/-- A part of a block of the list. -/
theorem V_loadP {t : TypeId} {x : Operand} {d : TypeDesc} (i : Nat) {b off : Nat} {l vs : List Value} {T : TypeId} {fz : Nat × Nat} (ho : o.op = .load t x) (hx : ev st.env x = some (.pointer (some ⟨b, off, none⟩)))
    (hi : st.mem[i]? = some (b, .cells l.toArray T fz)) (hu : cx.P.underlying t = some d) (hs : scalarB d = false) (hz : (cx.P.info? t).map (·.size) = some vs.length) (hp : ∀ j, j < vs.length → l[off + j]? = vs[j]?) : V cx o st (.agg vs.toArray) :=
  V_loadN ho hx hu hs hz fun w hw j v hv => cellM hi (by
    have hj := (List.getElem?_eq_some_iff.1 hv).1
    simpa [hp j hj] using hv) w hw

theorem V_indexArr {t : TypeId} {x y : Operand} {k : IntKind} {len sz b off : Nat} {e : TypeId} {n : Int} {off' : Nat} (ho : o.op = .indexAddr t x y) (hx : ev st.env x = some (.pointer (some ⟨b, off, none⟩))) (hy : ev st.env y = some (.int k n))
    (hu : cx.P.underlying t = some (.array len e)) (hz : (cx.P.info? e).map (·.size) = some sz) (h0 : 0 ≤ n) (h1 : n < len) (he : off + n.toNat * sz = off') : V cx o st (.pointer (some ⟨b, off', none⟩)) :=
  ⟨nd ho (fun c h => by cases h), fun a w h => by
    unfold execOp; rw [ho]
    simp only [h.a.ev hx, h.a.ev hy, Instr.indexAt, asIntOf, Instr.sureAddr, Sem.run_bind, Sem.run_pure, Result.andThen_ok, run_underlying hu]
    rw [if_pos ⟨h0, h1⟩]
    simp only [Sem.run_bind, run_sizeOf hz, Result.andThen_ok, Sem.run_pure, add_at, he]⟩
theorem V_indexSl {t : TypeId} {x y : Operand} {k : IntKind} {len cap sz b off : Nat} {e : TypeId} {n : Int} {off' : Nat} (ho : o.op = .indexAddr t x y) (hx : ev st.env x = some (.slice (some ⟨b, off, none⟩) len cap)) (hy : ev st.env y = some (.int k n))
    (hu : cx.P.underlying t = some (.slice e)) (hz : (cx.P.info? e).map (·.size) = some sz) (h0 : 0 ≤ n) (h1 : n < len) (he : off + n.toNat * sz = off') : V cx o st (.pointer (some ⟨b, off', none⟩)) :=
  ⟨nd ho (fun c h => by cases h), fun a w h => by
    unfold execOp; rw [ho]
    simp only [h.a.ev hx, h.a.ev hy, Instr.indexAt, asIntOf, Instr.sureAddr, Sem.run_bind, Sem.run_pure, Result.andThen_ok, run_underlying hu]
    rw [if_pos ⟨h0, h1⟩]
    simp only [Sem.run_bind, run_sizeOf hz, Result.andThen_ok, Sem.run_pure, add_at, he]⟩
theorem V_fieldAddr {t : TypeId} {x : Operand} {fs : Array Field} {f : Field} {i b off off' n : Nat} (ho : o.op = .fieldAddr t x i) (hx : ev st.env x = some (.pointer (some ⟨b, off, none⟩)))
    (hu : cx.P.underlying t = some (.struct fs)) (hf : fs[i]? = some f) (hz : (cx.P.info? f.type).map (·.size) = some (n + 1)) (he : off + f.offset = off') : V cx o st (.pointer (some ⟨b, off', none⟩)) :=
  ⟨nd ho (fun c h => by cases h), fun a w h => by
    unfold execOp; rw [ho]
    simp only [h.a.ev hx, Instr.fieldAt, Instr.sureAddr, Sem.run_bind, Sem.run_pure, Result.andThen_ok, run_underlying hu, hf, fieldPlace, run_sizeOf hz]
    rw [if_neg (Nat.succ_ne_zero n)]
    simp only [Sem.run_pure, Result.andThen_ok, add_at, he]⟩
theorem V_field1 {t : TypeId} {x : Operand} {fs : Array Field} {f : Field} {d : TypeDesc} {i : Nat} {cs : Array Value} {v : Value} (ho : o.op = .field t x i) (hx : ev st.env x = some (.agg cs))
    (hu : cx.P.underlying t = some (.struct fs)) (hf : fs[i]? = some f) (hd : cx.P.underlying f.type = some d) (hs : scalarB d = true) (hv : cs[f.offset]? = some v) : V cx o st v :=
  ⟨nd ho (fun c h => by cases h), fun a w h => by
    unfold execOp; rw [ho]
    simp only [h.a.ev hx, Instr.field, Sem.run_bind, Sem.run_pure, Result.andThen_ok, run_underlying hu, hf, part, run_isAgg hd, hs, asAgg]
    simp [hv]⟩
theorem V_fieldN {t : TypeId} {x : Operand} {fs : Array Field} {f : Field} {d : TypeDesc} {i n : Nat} {cs vs : Array Value} (ho : o.op = .field t x i) (hx : ev st.env x = some (.agg cs))
    (hu : cx.P.underlying t = some (.struct fs)) (hf : fs[i]? = some f) (hd : cx.P.underlying f.type = some d) (hs : scalarB d = false) (hz : (cx.P.info? f.type).map (·.size) = some n) (hv : cs.extract f.offset (f.offset + n) = vs) : V cx o st (.agg vs) :=
  ⟨nd ho (fun c h => by cases h), fun a w h => by
    unfold execOp; rw [ho]
    simp only [h.a.ev hx, Instr.field, Sem.run_bind, Sem.run_pure, Result.andThen_ok, run_underlying hu, hf, part, run_isAgg hd, hs, asAgg, run_sizeOf hz]
    simp [run_sizeOf hz, hv]⟩

theorem L_alloc {ops : Array Oper} {K : St → Prop} {rest : List Oper} {t : TypeId} {d : Nat} {z : Value} (hg : o.guard = none) (ho : o.op = .alloc t) (hd : o.dst = some d) (hlt : Nat.blt d cx.nt = true) (hz : (cx.P.info? t).bind (·.zero) = some z)
    (h : ∀ b, L cx ops K rest { st with env := (d, .pointer (some ⟨b, 0, none⟩)) :: st.env, mem := st.mem ++ [(b, .cells z.cells t)] }) : L cx ops K (o :: rest) st := by
  refine L_cons hg fun Q next a w hok hk => ?_
  have hr : (execOp a.eval o).run cx.P w = .ok (.value (.pointer (some ⟨w.heap.size, 0, none⟩))) (w.alloc (.cells z.cells t)) := by
    unfold execOp; rw [ho]
    cases hq : cx.P.info? t with
    | none => simp [hq] at hz
    | some i =>
      have hz' : i.zero = some z := by simpa [hq] using hz
      simp [Instr.alloc, zeroValue, typeInfo, hq, hz', newVar, newRow]
  exact wpIn_value (nd ho (fun c h => by cases h)) hr (by rw [hd]; exact hk _ _ _ ⟨hok.a.put hlt _, hok.w.alloc _⟩ (h _))
theorem L_box {ops : Array Oper} {K : St → Prop} {rest : List Oper} {t : TypeId} {d : Nat} {x : Operand} {v : Value} (hg : o.guard = none) (ho : o.op = .box t x) (hd : o.dst = some d) (hlt : Nat.blt d cx.nt = true) (hx : ev st.env x = some v)
    (h : ∀ b, L cx ops K rest { st with env := (d, .pointer (some ⟨b, 0, none⟩)) :: st.env, mem := st.mem ++ [(b, .cells v.cells t)] }) : L cx ops K (o :: rest) st := by
  refine L_cons hg fun Q next a w hok hk => ?_
  have hr : (execOp a.eval o).run cx.P w = .ok (.value (.pointer (some ⟨w.heap.size, 0, none⟩))) (w.alloc (.cells v.cells t)) := by
    unfold execOp; rw [ho]
    simp [Instr.box, newVar, newRow, hok.a.ev hx]
  exact wpIn_value (nd ho (fun c h => by cases h)) hr (by rw [hd]; exact hk _ _ _ ⟨hok.a.put hlt _, hok.w.alloc _⟩ (h _))

theorem setRow_same (w : World) (b : Nat) (old cs : Array Value) (t : TypeId) (fz : Nat × Nat) (h : w.heap[b]? = some (.cells old t fz)) : (w.setRow b cs).heap[b]? = some (.cells cs t fz) := setRow_heap w b old cs t fz h

/-- A store of so many cells. -/
theorem S_store {K : St → Prop} {t : TypeId} {x y : Operand} (i : Nat) {b off : Nat} {l vs l' : List Value} {T : TypeId} {v : Value} (ho : o.op = .store t x y) (hd : o.dst = none) (hx : ev st.env x = some (.pointer (some ⟨b, off, none⟩))) (hy : ev st.env y = some v)
    (hi : st.mem[i]? = some (b, row T l)) (hvs : v.cells = vs.toArray) (hz : (cx.P.info? t).map (·.size) = some vs.length) (h1 : ∀ u ∈ vs, u.oneCell' = true) (hfit : off + vs.length ≤ l.length) (hl : l.take off ++ vs ++ l.drop (off + vs.length) = l')
    (h : K { st with mem := st.mem.set i (b, row T l') }) : S cx o K st := by
  intro Q next a w hok hk
  have hw := hok.w.at hi
  have hst := run_storeCells_at cx.P b off T vs 0 l.toArray w hw (by simpa using hfit) h1
  have hr : (execOp a.eval o).run cx.P w = .ok .skip (w.setRow b l'.toArray) := by
    unfold execOp; rw [ho]
    simp only [hok.a.ev hx, hok.a.ev hy, Instr.storeAt, Instr.sureAddr, Sem.run_bind, Sem.run_pure, Result.andThen_ok, storeVar, run_sizeOf hz, hvs]
    simp only [List.size_toArray, ne_eq, not_true_eq_false, if_false, Sem.run_pure, Result.andThen_ok, Sem.run_bind]
    simp only [Nat.add_zero] at hst
    rw [hst]
    simp only [Result.andThen_ok, hl, Sem.run_pure]
  refine wpIn_skip' (nd ho (fun c h => by cases h)) hr ?_
  rw [hd]
  exact hk { st with mem := st.mem.set i (b, row T l') } _ _ ⟨hok.a, hok.w.set hi (Fr.setRow _) (setRow_same w b _ _ T (0, 0) hw)⟩ h
theorem L_store1 {ops : Array Oper} {K : St → Prop} {rest : List Oper} {t : TypeId} {x y : Operand} (i : Nat) {b off : Nat} {l l' : List Value} {T : TypeId} {v : Value} (hg : o.guard = none) (ho : o.op = .store t x y) (hd : o.dst = none) (hx : ev st.env x = some (.pointer (some ⟨b, off, none⟩))) (hy : ev st.env y = some v)
    (hi : st.mem[i]? = some (b, row T l)) (h1 : v.oneCell' = true) (hz : (cx.P.info? t).map (·.size) = some 1) (hfit : off < l.length) (hl : l.set off v = l')
    (h : L cx ops K rest { st with mem := st.mem.set i (b, row T l') }) : L cx ops K (o :: rest) st :=
  L_cons hg (S_store i (vs := [v]) ho hd hx hy hi (by cases v <;> first | rfl | (simp [Value.oneCell'] at h1)) hz (by simpa using h1) (by simp only [List.length_singleton]; omega) (by
    rw [← hl, List.set_eq_take_append_cons_drop, if_pos hfit]; simp) h)
theorem L_storeW {ops : Array Oper} {K : St → Prop} {rest : List Oper} {t : TypeId} {x y : Operand} (i : Nat) {b : Nat} {l vs : List Value} {T : TypeId} (hg : o.guard = none) (ho : o.op = .store t x y) (hd : o.dst = none) (hx : ev st.env x = some (.pointer (some ⟨b, 0, none⟩))) (hy : ev st.env y = some (.agg vs.toArray))
    (hi : st.mem[i]? = some (b, row T l)) (hz : (cx.P.info? t).map (·.size) = some vs.length) (h1 : ∀ u ∈ vs, u.oneCell' = true) (hl : l.length = vs.length)
    (h : L cx ops K rest { st with mem := st.mem.set i (b, row T vs) }) : L cx ops K (o :: rest) st :=
  L_cons hg (S_store i ho hd hx hy hi rfl hz h1 (by omega) (by simp; omega) h)
/-- A block's content in another spelling. -/
theorem L_memSame {ops : Array Oper} {K : St → Prop} {l : List Oper} (i : Nat) {b : Nat} {p p' : Obj} (hi : st.mem[i]? = some (b, p)) (e : p = p') (h : L cx ops K l { st with mem := st.mem.set i (b, p') }) : L cx ops K l st := by
  subst e
  have : st.mem.set i (b, p) = st.mem := by
    apply List.ext_getElem?
    intro j
    rw [List.getElem?_set]
    split
    · rename_i hj; subst hj; split <;> simp_all
    · rfl
  rw [this] at h
  exact h
end memory

/-! ### Calls -/
section calls
variable {cx : Cx} {o : Oper} {st : St} {ops : Array Oper} {K : St → Prop} {rest : List Oper}

/-- The function has a text of its own. -/
def Txt (P : Program) (f : FuncId) : Prop := ∀ args w, (callFunc f args).run P w = .ok (.enter f args) w
theorem txt_of {P : Program} {f : FuncId} {fn : Func} {c : Code} (hf : P.funcs[f]? = some fn) (hb : fn.body = some c) (hn : (fn.name == "runtime.NumGoroutine") = false) : Txt P f := by
  intro args w
  have hb' : fn.body.isNone = false := by rw [hb]; rfl
  unfold callFunc
  rw [Sem.run_bind]
  show Result.andThen (Result.ok P w) _ = _
  simp only [Result.andThen_ok, hf, hn, hb', Bool.false_eq_true, if_false]
  rfl

theorem callsIn_fen {ro : Option Nat} {n : Nat} {P : Program} {f : FuncId} {args : Array Value} {w : World} {R : Ending → World → Prop} (h : Calls P f args w R) : CallsIn (fen ro) n P f args w R :=
  (callsIn_wide (n := n)).2 h

theorem run_call {a : Act} {env : Env} {ds : List Deferred} (ha : OkA cx env ds a) {x : Operand} {args : Array Operand} {at_ : Array TypeId} {f : FuncId} {cap : Array Value} {vs : List Value} (ho : o.op = .call { callee := .value x, args := args, argTypes := at_ })
    (hx : ev env x = some (.func (.func f) #[] cap)) (hv : evs env args.toList = some vs) (hf : Txt cx.P f) (w : World) : (execOp a.eval o).run cx.P w = .ok (.enter f (vs.toArray ++ cap)) w := by
  unfold execOp; rw [ho]
  have e1 : args.map a.eval = vs.toArray := Array.ext' (by rw [Array.toList_map, ha.evs hv])
  simp only [resolve, ha.ev hx, e1, Deferred.ofValue, Sem.run_bind, Sem.run_pure, Result.andThen_ok, invoke, Array.empty_append, hf _ w]

/-- A call, by whatever is known of it. -/
theorem L_call {x : Operand} {args : Array Operand} {at_ : Array TypeId} {f : FuncId} {cap : Array Value} {vs : List Value} (hg : o.guard = none) (ho : o.op = .call { callee := .value x, args := args, argTypes := at_ })
    (hx : ev st.env x = some (.func (.func f) #[] cap)) (hv : evs st.env args.toList = some vs) (hf : Txt cx.P f)
    (hc : ∀ w, OkW cx st.mem st.facts w → Calls cx.P f (vs.toArray ++ cap) w fun e w' => ∃ v m fs, e = .returned v ∧ OkW cx m fs w' ∧
      (match o.dst with
       | some d => Nat.blt d cx.nt = true ∧ L cx ops K rest { st with env := (d, v) :: st.env, mem := m, facts := fs }
       | none => L cx ops K rest { st with mem := m, facts := fs })) : L cx ops K (o :: rest) st := by
  refine L_cons hg fun Q next a w hok hk => ?_
  refine ⟨fun _ _ => trivial, ?_⟩
  rw [Oper.semAt_eq _ _ _ (nd ho (fun c h => by cases h)), run_call hok.a ho hx hv hf w]
  refine ⟨fun h => (by cases h), ?_⟩
  refine callsIn_fen ((hc w hok.w).mono ?_)
  rintro e w' ⟨v, m, fs, rfl, hw', hL⟩
  cases hd : o.dst with
  | none =>
    rw [hd] at hL
    exact hk { st with mem := m, facts := fs } _ _ ⟨hok.a, hw'⟩ hL
  | some d =>
    rw [hd] at hL
    exact hk { st with env := (d, v) :: st.env, mem := m, facts := fs } _ _ ⟨hok.a.put hL.1 v, hw'⟩ hL.2

/-- A call that hands back one known value, and turns nothing that was there. -/
theorem L_callV {x : Operand} {args : Array Operand} {at_ : Array TypeId} {f : FuncId} {cap : Array Value} {vs : List Value} {v : Value} {d : Nat} (hg : o.guard = none) (ho : o.op = .call { callee := .value x, args := args, argTypes := at_ })
    (hd : o.dst = some d) (hlt : Nat.blt d cx.nt = true)
    (hx : ev st.env x = some (.func (.func f) #[] cap)) (hv : evs st.env args.toList = some vs) (hf : Txt cx.P f)
    (hc : ∀ w, OkW cx st.mem st.facts w → Calls cx.P f (vs.toArray ++ cap) w fun e w' => e = .returned v ∧ Fr [] w w') (h : L cx ops K rest (st.put d v)) : L cx ops K (o :: rest) st :=
  L_call hg ho hx hv hf fun w hw => (hc w hw).mono fun e w' ⟨he, hfr⟩ => ⟨v, st.mem, st.facts, he, hw.fr0 hfr, by rw [hd]; exact ⟨hlt, h⟩⟩

theorem L_wcallV {x : Operand} {args : Array Operand} {at_ : Array TypeId} {f : FuncId} {cap : Array Value} {vs : List Value} {v : Value} {d j dj : Nat} {want : Bool} (hg : o.guard = some (j, want)) (hj : (ops[j]?).bind (·.dst) = some dj) (hdj : Nat.blt dj cx.nt = true)
    (hvj : get st.env dj = some (.bool want)) (ho : o.op = .call { callee := .value x, args := args, argTypes := at_ })
    (hd : o.dst = some d) (hlt : Nat.blt d cx.nt = true)
    (hx : ev st.env x = some (.func (.func f) #[] cap)) (hv : evs st.env args.toList = some vs) (hf : Txt cx.P f)
    (hc : ∀ w, OkW cx st.mem st.facts w → Calls cx.P f (vs.toArray ++ cap) w fun e w' => e = .returned v ∧ Fr [] w w') (h : L cx ops K rest (st.put d v)) : L cx ops K (o :: rest) st :=
  L_want hg hj hdj hvj fun Q next a w hok hk => by
    refine ⟨fun _ _ => trivial, ?_⟩
    rw [Oper.semAt_eq _ _ _ (nd ho (fun c h => by cases h)), run_call hok.a ho hx hv hf w]
    refine ⟨fun h => (by cases h), ?_⟩
    refine callsIn_fen ((hc w hok.w).mono ?_)
    rintro e w' ⟨rfl, hfr⟩
    rw [hd]
    exact hk (st.put d v) _ _ ⟨hok.a.put hlt v, hok.w.fr0 hfr⟩ h

def envOf : Nat → List Value → Env
  | _, [] => []
  | k, v :: r => (k, v) :: envOf (k + 1) r

theorem get_envOf : ∀ (l : List Value) (i k : Nat) (v : Value), get (envOf i l) k = some v → i ≤ k ∧ l[k - i]? = some v
  | [], _, _, _, h => by simp [envOf, get] at h
  | u :: r, i, k, v, h => by
    unfold envOf get at h
    split at h
    · rename_i e
      have : i = k := Nat.eq_of_beq_eq_true e
      subst this
      injection h with h
      subst h
      simp
    · rename_i e
      have hne : i ≠ k := fun h => by subst h; simp at e
      obtain ⟨h1, h2⟩ := get_envOf r (i + 1) k v h
      refine ⟨by omega, ?_⟩
      rw [show k - i = (k - (i + 1)) + 1 by omega]
      simpa using h2

def Kret (cx : Cx) (fn : Func) (R : Ending → World → Prop) : Exit → St → Prop
  | .normal, st => ∀ a w, Ok cx st a w → bodyPost cx.P fn R .ret a w
  | .ret, st => ∀ a w, Ok cx st a w → bodyPost cx.P fn R .ret a w
  | _, _ => False

/-- A function is entered. -/
theorem calls_of {P : Program} {f : FuncId} {fn : Func} {c : Code} {args : List Value} {w : World} {R : Ending → World → Prop} (mods : List Nat) (mem : Mem) (facts : List Fact) (hf : P.funcs[f]? = some fn) (hb : fn.body = some c)
    (hn : Nat.ble args.length fn.ntmps = true) (hw : OkW { P := P, w0 := w, nt := fn.ntmps, mods := mods } mem facts w)
    (h : J { P := P, w0 := w, nt := fn.ntmps, mods := mods } c (Kret { P := P, w0 := w, nt := fn.ntmps, mods := mods } fn R) { env := envOf 0 args, mem := mem, facts := facts }) : Calls P f args.toArray w R := by
  refine (callsIn_wide (n := 0)).1 (callsIn_of_wp hf hb trivial ?_)
  have hn' : args.length ≤ fn.ntmps := by simpa [Nat.ble_eq] using hn
  have := h { tmps := args.toArray ++ Array.replicate (fn.ntmps - args.toArray.size) undef, defers := [] } w ⟨⟨fun k v hk => ?_, by simp; omega, rfl⟩, hw⟩
  · refine Go.wpIn_mono this ?_
    rintro e a w ⟨s, h1, h2⟩
    cases e with
    | normal => exact h2 a w h1
    | ret => exact h2 a w h1
    | exit id => exact h2.elim
    | goto l => exact h2.elim
    | panic c => exact h2.elim
    | outgrown => exact h2.elim
  · obtain ⟨_, h2⟩ := get_envOf _ _ _ _ hk
    simp only [Nat.sub_zero] at h2
    have hl := (List.getElem?_eq_some_iff.1 h2).1
    have h3 := (List.getElem?_eq_some_iff.1 h2).2
    simp [Array.getElem?_append, hl, h3]

theorem okW0 (P : Program) (w : World) (nt : Nat) (mods : List Nat) : OkW { P := P, w0 := w, nt := nt, mods := mods } [] [] w :=
  ⟨by simp, by simp, by simp, by simp, Fr.refl _ _⟩

/-- What a result reads as. -/
def rd (tmps : Array Value) : ResultVar → Sem Value
  | .tmp t => pure (tmps.getD t undef)
  | .cell p t => do loadVar t (← asAddr (tmps.getD p undef))
theorem results_rd (fn : Func) (tmps : Array Value) : results fn tmps = (do let vs ← fn.results.mapM (rd tmps); pure (if h : vs.size = 1 then vs[0] else .tuple vs)) := by
  unfold results
  rfl
def RV (cx : Cx) (st : St) (r : ResultVar) (v : Value) : Prop :=
  ∀ a w, Ok cx st a w → (rd a.tmps r).run cx.P w = .ok v w
theorem RV_t {t : Tmp} {v : Value} (h : get st.env t = some v) : RV cx st (.tmp t) v := fun a w ho => by
  have := ho.a.env t v h
  simp only [rd, this]
  rfl
theorem RV_c {p : Tmp} {t : TypeId} {d : TypeDesc} (i : Nat) {b : Nat} {l : List Value} {T : TypeId} {fz : Nat × Nat} (h : get st.env p = some (.pointer (some ⟨b, 0, none⟩))) (hi : st.mem[i]? = some (b, .cells l.toArray T fz))
    (hu : cx.P.underlying t = some d) (hs : scalarB d = false) (hz : (cx.P.info? t).map (·.size) = some l.length) : RV cx st (.cell p t) (.agg l.toArray) := fun a w ho => by
  have := ho.a.env p _ h
  simp only [rd, this, asAddr, Sem.run_bind, Sem.run_pure, Result.andThen_ok]
  exact run_loadVarN hu hs hz fun j v hv => by rw [Nat.zero_add]; exact cell_of (ho.w.at hi) (by simpa using hv)
theorem RV_c1 {p : Tmp} {t : TypeId} {d : TypeDesc} (i : Nat) {b : Nat} {v : Value} {l : List Value} {T : TypeId} {fz : Nat × Nat} (h : get st.env p = some (.pointer (some ⟨b, 0, none⟩))) (hi : st.mem[i]? = some (b, .cells l.toArray T fz))
    (hu : cx.P.underlying t = some d) (hs : scalarB d = true) (hv : l[0]? = some v) : RV cx st (.cell p t) v := fun a w ho => by
  have := ho.a.env p _ h
  simp only [rd, this, asAddr, Sem.run_bind, Sem.run_pure, Result.andThen_ok]
  exact run_loadVar1 hu hs (cell_of (ho.w.at hi) (by simpa using hv))

variable {fn : Func} {R : Ending → World → Prop}
theorem ret0 (hr : fn.results = #[]) (hd : st.ds = []) (h : ∀ w, OkW cx st.mem st.facts w → R (.returned (.tuple #[])) w) : Kret cx fn R .ret st :=
  fun a w ho => ⟨ho.a.ds.trans hd, .tuple #[], by simp [results, hr], h w ho.w⟩
theorem ret1 {r1 : ResultVar} {v1 : Value} (hr : fn.results = #[r1]) (hd : st.ds = []) (hv1 : RV cx st r1 v1) (h : ∀ w, OkW cx st.mem st.facts w → R (.returned (v1)) w) : Kret cx fn R .ret st :=
  fun a w ho => ⟨ho.a.ds.trans hd, v1, by
    have h1 := hv1 a w ho
    rw [results_rd, hr]
    simp [Sem.run_bind, h1], h w ho.w⟩
theorem ret2 {r1 r2 : ResultVar} {v1 v2 : Value} (hr : fn.results = #[r1, r2]) (hd : st.ds = []) (hv1 : RV cx st r1 v1) (hv2 : RV cx st r2 v2) (h : ∀ w, OkW cx st.mem st.facts w → R (.returned (.tuple #[v1, v2])) w) : Kret cx fn R .ret st :=
  fun a w ho => ⟨ho.a.ds.trans hd, .tuple #[v1, v2], by
    have h1 := hv1 a w ho
    have h2 := hv2 a w ho
    rw [results_rd, hr]
    simp [Sem.run_bind, h1, h2], h w ho.w⟩
theorem ret3 {r1 r2 r3 : ResultVar} {v1 v2 v3 : Value} (hr : fn.results = #[r1, r2, r3]) (hd : st.ds = []) (hv1 : RV cx st r1 v1) (hv2 : RV cx st r2 v2) (hv3 : RV cx st r3 v3) (h : ∀ w, OkW cx st.mem st.facts w → R (.returned (.tuple #[v1, v2, v3])) w) : Kret cx fn R .ret st :=
  fun a w ho => ⟨ho.a.ds.trans hd, .tuple #[v1, v2, v3], by
    have h1 := hv1 a w ho
    have h2 := hv2 a w ho
    have h3 := hv3 a w ho
    rw [results_rd, hr]
    simp [Sem.run_bind, h1, h2, h3], h w ho.w⟩
theorem ret4 {r1 r2 r3 r4 : ResultVar} {v1 v2 v3 v4 : Value} (hr : fn.results = #[r1, r2, r3, r4]) (hd : st.ds = []) (hv1 : RV cx st r1 v1) (hv2 : RV cx st r2 v2) (hv3 : RV cx st r3 v3) (hv4 : RV cx st r4 v4) (h : ∀ w, OkW cx st.mem st.facts w → R (.returned (.tuple #[v1, v2, v3, v4])) w) : Kret cx fn R .ret st :=
  fun a w ho => ⟨ho.a.ds.trans hd, .tuple #[v1, v2, v3, v4], by
    have h1 := hv1 a w ho
    have h2 := hv2 a w ho
    have h3 := hv3 a w ho
    have h4 := hv4 a w ho
    rw [results_rd, hr]
    simp [Sem.run_bind, h1, h2, h3, h4], h w ho.w⟩
theorem Kret_normal (h : Kret cx fn R .ret st) : Kret cx fn R .normal st := h
end calls

/-! ### A region whose order is open -/
section quiet
variable {cx : Cx} {o : Oper} {st : St} {ops : Array Oper} {K : St → Prop} {rest : List Oper}

def LQ (cx : Cx) (ops : Array Oper) (K : St → Prop) (l : List Oper) (st : St) : Prop :=
  ∀ (Kf : Act → Prop) a, OkA cx st.env st.ds a → (∀ e' a', OkA cx e' st.ds a' → K { st with env := e' } → Kf a') → wpQuiet cx.P ops (OkW cx st.mem st.facts) Kf l a

theorem LQ_nil (h : K st) : LQ cx ops K [] st := fun Kf a ha hk => wpQuiet_nil (hk _ _ ha h)

theorem quiet_v {a : Act} {v : Value} {Kf : Act → Prop} {d : Nat} (ha : OkA cx st.env st.ds a) (hd : o.dst = some d) (hv : V cx o st v) (h : Kf (a.put (some d) v)) : o.quiet cx.P a (OkW cx st.mem st.facts) Kf :=
  ⟨v, fun w hw => by unfold Oper.quietAt; rw [hv.2 a w ⟨ha, hw⟩]; exact ⟨rfl, rfl⟩, by rw [hd]; exact h⟩

theorem LQ_v {d : Nat} {v : Value} (hg : o.guard = none) (hd : o.dst = some d) (hlt : Nat.blt d cx.nt = true) (hv : V cx o st v) (h : LQ cx ops K rest (st.put d v)) : LQ cx ops K (o :: rest) st :=
  fun Kf a ha hk => wpQuiet_step fun K' hK' => by
    simp only [Region.wanted, hg, if_true]
    exact quiet_v ha hd hv (hK' _ (h Kf _ (ha.put hlt v) hk))
theorem LQ_wv {d j dj : Nat} {want : Bool} {v : Value} (hg : o.guard = some (j, want)) (hj : (ops[j]?).bind (·.dst) = some dj) (hdj : Nat.blt dj cx.nt = true)
    (hvj : get st.env dj = some (.bool want)) (hd : o.dst = some d) (hlt : Nat.blt d cx.nt = true) (hv : V cx o st v) (h : LQ cx ops K rest (st.put d v)) : LQ cx ops K (o :: rest) st :=
  fun Kf a ha hk => wpQuiet_step fun K' hK' => by
    rw [wanted_eq ha hg hj hdj hvj]
    simp only [isB, beq_self_eq_true, if_true]
    exact quiet_v ha hd hv (hK' _ (h Kf _ (ha.put hlt v) hk))
theorem LQ_skip {j d t : Nat} {want : Bool} {v : Value} (hg : o.guard = some (j, want)) (hj : (ops[j]?).bind (·.dst) = some d) (hd : Nat.blt d cx.nt = true)
    (hv : get st.env d = some v) (hb : isB want v = false) (ht : o.dst = some t) (htl : Nat.blt t cx.nt = true) (h : LQ cx ops K rest (st.put t undef)) : LQ cx ops K (o :: rest) st :=
  fun Kf a ha hk => wpQuiet_step fun K' hK' => by
    rw [wanted_eq ha hg hj hd hv, hb]
    simp only [Bool.false_eq_true, if_false, ht]
    exact hK' _ (h Kf _ (ha.put htl undef) hk)
theorem LQ_split {l : List Oper} (s : Nat) {b : Bool} (hs : get st.env s = some (.bool b)) (ht : b = true → LQ cx ops K l (st.put s (.bool true))) (hf : b = false → LQ cx ops K l (st.put s (.bool false))) :
    LQ cx ops K l st := by
  intro Kf a ha hk
  cases b with
  | true => exact ht rfl Kf a (put_same ha hs) hk
  | false => exact hf rfl Kf a (put_same ha hs) hk

theorem quiet_call {a : Act} {v : Value} {Kf : Act → Prop} {d : Nat} {x : Operand} {args : Array Operand} {at_ : Array TypeId} {f : FuncId} {cap : Array Value} {vs : List Value} (ha : OkA cx st.env st.ds a) (ho : o.op = .call { callee := .value x, args := args, argTypes := at_ })
    (hd : o.dst = some d) (hx : ev st.env x = some (.func (.func f) #[] cap)) (hv : evs st.env args.toList = some vs) (hf : Txt cx.P f)
    (hc : ∀ w, OkW cx st.mem st.facts w → Calls cx.P f (vs.toArray ++ cap) w fun e w' => e = .returned v ∧ Fr [] w w') (h : Kf (a.put (some d) v)) : o.quiet cx.P a (OkW cx st.mem st.facts) Kf :=
  ⟨v, fun w hw => by
    unfold Oper.quietAt
    rw [run_call ha ho hx hv hf w]
    exact ⟨rfl, (hc w hw).mono fun e w' ⟨he, hfr⟩ => ⟨he, hw.fr0 hfr⟩⟩, by rw [hd]; exact h⟩
theorem LQ_callV {x : Operand} {args : Array Operand} {at_ : Array TypeId} {f : FuncId} {cap : Array Value} {vs : List Value} {v : Value} {d : Nat} (hg : o.guard = none) (ho : o.op = .call { callee := .value x, args := args, argTypes := at_ })
    (hd : o.dst = some d) (hlt : Nat.blt d cx.nt = true)
    (hx : ev st.env x = some (.func (.func f) #[] cap)) (hv : evs st.env args.toList = some vs) (hf : Txt cx.P f)
    (hc : ∀ w, OkW cx st.mem st.facts w → Calls cx.P f (vs.toArray ++ cap) w fun e w' => e = .returned v ∧ Fr [] w w') (h : LQ cx ops K rest (st.put d v)) : LQ cx ops K (o :: rest) st :=
  fun Kf a ha hk => wpQuiet_step fun K' hK' => by
    simp only [Region.wanted, hg, if_true]
    exact quiet_call ha ho hd hx hv hf hc (hK' _ (h Kf _ (ha.put hlt v) hk))
theorem LQ_wcallV {x : Operand} {args : Array Operand} {at_ : Array TypeId} {f : FuncId} {cap : Array Value} {vs : List Value} {v : Value} {d j dj : Nat} {want : Bool} (hg : o.guard = some (j, want)) (hj : (ops[j]?).bind (·.dst) = some dj) (hdj : Nat.blt dj cx.nt = true)
    (hvj : get st.env dj = some (.bool want)) (ho : o.op = .call { callee := .value x, args := args, argTypes := at_ })
    (hd : o.dst = some d) (hlt : Nat.blt d cx.nt = true)
    (hx : ev st.env x = some (.func (.func f) #[] cap)) (hv : evs st.env args.toList = some vs) (hf : Txt cx.P f)
    (hc : ∀ w, OkW cx st.mem st.facts w → Calls cx.P f (vs.toArray ++ cap) w fun e w' => e = .returned v ∧ Fr [] w w') (h : LQ cx ops K rest (st.put d v)) : LQ cx ops K (o :: rest) st :=
  fun Kf a ha hk => wpQuiet_step fun K' hK' => by
    rw [wanted_eq ha hg hj hdj hvj]
    simp only [isB, beq_self_eq_true, if_true]
    exact quiet_call ha ho hd hx hv hf hc (hK' _ (h Kf _ (ha.put hlt v) hk))

section anyIn
variable {P : Program} {C : World → Prop} {md : Region.Mode} {ro : Option Nat}

theorem opIn_of_quiet {a : Act} {Kf : Act → Prop} {K' : Act → World → Prop} {Q' : Exit → Act → World → Prop} {w : World} (hw : C w) (h : ∀ a w', C w' → Kf a → K' a w') (hh : o.quiet P a C Kf) : o.wpIn (fen ro) 0 P a w K' Q' := by
  obtain ⟨v, h1, h2⟩ := hh
  have h3 := h1 w hw
  refine ⟨fun _ _ => trivial, ?_⟩
  have hnd : ∀ c, o.op ≠ .defer c := by
    intro c hc
    unfold Oper.quietAt execOp at h3
    rw [hc] at h3
    simp only [Sem.run_bind] at h3
    cases hr : (resolve a.eval c o.type).run P w with
    | ok d w' => rw [hr] at h3; exact h3
    | halt x w' => rw [hr] at h3; exact h3
  rw [Oper.semAt_eq _ _ _ hnd]
  unfold Oper.quietAt at h3
  generalize (execOp a.eval o).run P w = r at h3
  cases r with
  | halt x w' => exact h3.elim
  | ok n w' =>
    cases n with
    | value u =>
      obtain ⟨e1, e2⟩ := h3
      subst e1 e2
      exact h _ _ hw h2
    | skip =>
      obtain ⟨e1, e2⟩ := h3
      subst e1 e2
      exact h _ _ hw h2
    | enter f args =>
      obtain ⟨e1, hc⟩ := h3
      subst e1
      refine ⟨fun h => (by cases h), callsIn_fen (hc.mono ?_)⟩
      rintro e w'' ⟨rfl, hC⟩
      exact h _ _ hC h2
    | _ => exact h3.elim

theorem wpOpIn_of_quiet {i : Nat} {a : Act} {Kf : Act → Prop} {K' : Act → World → Prop} {Q' : Exit → Act → World → Prop} {w : World} (hC : C w) (h : ∀ a w', C w' → Kf a → K' a w') (hh : qOp P ops C i Kf a) : wpOpIn (fen ro) 0 P ops Q' i K' a w := by
  unfold qOp at hh
  unfold wpOpIn
  cases ho : ops[i]? with
  | none => simp only [ho] at hh ⊢; exact h _ _ hC hh
  | some o =>
    simp only [ho] at hh ⊢
    by_cases hw : Region.wanted o (yielded ops a.tmps) = true
    · simp only [hw, if_true] at hh ⊢; exact opIn_of_quiet hC h hh
    · simp only [hw] at hh ⊢; exact ⟨fun _ _ => trivial, h _ _ hC hh⟩

theorem wpAnyIn_of_quiet {T : Act → Prop} {Q' : Exit → Act → World → Prop} (hQ : ∀ a w, C w → T a → Q' .normal a w) : ∀ (fuel : Nat) (listed : Array Bool) (a : Act) (w : World), C w →
    wpAnyQ P md ops C T fuel listed a → wpAnyIn (fen ro) 0 P md ops Q' fuel listed a w
  | 0, _, _, _, hw, h => ⟨h.1, hQ _ _ hw h.2⟩
  | fuel + 1, _, _, _, hw, h => ⟨fun h0 => hQ _ _ hw (h.1 h0), fun i hi => wpOpIn_of_quiet hw (fun a' w' hw' => wpAnyIn_of_quiet hQ fuel _ a' w' hw') (h.2 i hi)⟩

/-- The first n operations in whatever order, each quiet; behind them T. -/
def wpHead (P : Program) (md : Region.Mode) (ops : Array Oper) (C : World → Prop) (n : Nat) (T : Array Bool → Act → Prop) : Nat → Array Bool → Act → Prop
  | 0, listed, a => T listed a
  | f + 1, listed, a => Region.ready md ops listed ≠ [] ∧ ∀ i ∈ Region.ready md ops listed, i < n ∧ qOp P ops C i (wpHead P md ops C n T f (listed.setIfInBounds i true)) a

theorem wpAnyIn_of_wpHead {n g : Nat} {T : Array Bool → Act → Prop} {Q' : Exit → Act → World → Prop} (hT : ∀ listed a w, C w → T listed a → wpAnyIn (fen ro) 0 P md ops Q' g listed a w) :
    ∀ (f : Nat) (listed : Array Bool) (a : Act) (w : World), C w → wpHead P md ops C n T f listed a → wpAnyIn (fen ro) 0 P md ops Q' (f + g) listed a w
  | 0, listed, a, w, hw, h => by rw [Nat.zero_add]; exact hT _ _ _ hw h
  | f + 1, listed, a, w, hw, h => by
    rw [show f + 1 + g = (f + g) + 1 by omega]
    exact ⟨fun h0 => absurd h0 h.1, fun i hi => wpOpIn_of_quiet hw (fun a' w' hw' h' => wpAnyIn_of_wpHead hT f _ a' w' hw' h') (h.2 i hi).2⟩

theorem wpHead_first {n i : Nat} {oi : Oper} {v : Value} {T : Array Bool → Act → Prop} (hi : ops[i]? = some oi) (hsel : ∀ (j : Nat) (o : Oper) cs b, ops[j]? = some o → o.op ≠ .select cs b)
    (hs : Region.sinkB md ops n = true) (hc : Region.chainB md ops n = true) (hn : n < ops.size) (hin : i < n)
    (hdone : ∀ listed a, T listed a → ∀ j ∈ Region.ready md ops listed, n ≤ j) :
    ∀ (f : Nat) (listed : Array Bool) (a : Act), HeadInv md ops n listed →
      (∀ j oj, ops[j]? = some oj → j ≠ i → listed.getD j true = false → (∀ e ∈ oj.after, Region.binds md e = true → e.on ≠ i) → oi.apart ops oj = true) →
      i ∈ Region.ready md ops listed → YieldsIn P ops C oi v a →
      wpHead P md ops C n T f (listed.setIfInBounds i true) (a.put oi.dst v) → wpHead P md ops C n T (f + 1) listed a := by
  intro f
  induction f with
  | zero =>
    intro listed a inv _ hr hy H
    have hun := (mem_ready.1 hr).1
    refine ⟨fun h => (by rw [h] at hr; cases hr), fun j hj => ?_⟩
    have hjn : j < n := Nat.lt_of_not_le fun h => absurd hj (tail_waits hs hc hn inv _ i rfl hin hun j h)
    refine ⟨hjn, ?_⟩
    by_cases hji : j = i
    · subst hji; exact hy.qOp hi H
    · have := hdone _ _ H j (ready_mono hj hji)
      omega
  | succ f ih =>
    intro listed a inv hfree hr hy H
    have hun := (mem_ready.1 hr).1
    refine ⟨fun h => (by rw [h] at hr; cases hr), fun j hj => ?_⟩
    have hjn : j < n := Nat.lt_of_not_le fun h => absurd hj (tail_waits hs hc hn inv _ i rfl hin hun j h)
    refine ⟨hjn, ?_⟩
    by_cases hji : j = i
    · subst hji; exact hy.qOp hi H
    · have h1 := (H.2 j (ready_mono hj hji)).2
      obtain ⟨hjun, oj, hoj, hall⟩ := mem_ready.1 hj
      have hnot : ∀ e ∈ oj.after, Region.binds md e = true → e.on ≠ i := fun e he hb heq => by
        have h1 := hall e he hb
        rw [heq, getD_both hun] at h1
        cases h1
      have h2 := qOp_put hoj (hfree j oj hoj hji hjun hnot) (fun cs b => hsel i oi cs b hi) (fun cs b => hsel j oj cs b hoj) hy h1
      refine qOp_mono (fun a' h3 => ih (listed.setIfInBounds j true) a' (inv.set hj hjn) ?_ (ready_mono hr (Ne.symm hji)) h3.1 ?_) h2
      · intro k ok hk hki hun' hno
        refine hfree k ok hk hki ?_ hno
        by_cases hjk : j = k
        · subst hjk; exact hjun
        · rw [getD_set_ne true hjk] at hun'; exact hun'
      · rw [Array.setIfInBounds_comm _ _ hji]
        exact h3.2

theorem wpHead_lex {n g : Nat} {T : Act → Prop} (hsel : Region.noSelect ops = true) (hs : Region.sinkB md ops n = true) (hc : Region.chainB md ops n = true) (hn : n < ops.size) :
    ∀ (l : List Oper) (k : Nat) (listed : Array Bool) (a : Act), (∀ j, j < l.length → l[j]? = ops[k + j]?) → k + l.length = n → HeadInv md ops n listed →
    Region.lexHead md ops g l.length k listed = true → wpQuiet P ops C T l a →
    wpHead P md ops C n (fun listed' a' => Region.seqB md ops g n listed' = true ∧ T a') l.length listed a
  | [], k, listed, a, _, hk, _, hB, h => by
    have : k = n := by simpa using hk
    subst this
    exact ⟨by simpa [Region.lexHead] using hB, h⟩
  | o :: l, k, listed, a, hl, hk, inv, hB, h => by
    have h0 : ops[k]? = some o := by simpa using (hl 0 (by simp)).symm
    simp only [List.length_cons, Region.lexHead, Bool.and_eq_true] at hB
    obtain ⟨⟨hr, hf⟩, hB'⟩ := hB
    simp only [List.length_cons] at hk
    have hr' : k ∈ Region.ready md ops listed := by simpa using hr
    have hst : qOp P ops C k (wpQuiet P ops C T l) a := by unfold qOp; simp only [h0]; exact h
    obtain ⟨v, hy, hK⟩ := yieldsIn_of_qOp h0 hst
    exact wpHead_first h0 (Region.noSelect_spec hsel) hs hc hn (by omega) (fun listed' a' hL => seqB_ready hL.1) l.length listed a inv (Region.free_spec h0 hf) hr' hy
      (wpHead_lex hsel hs hc hn l (k + 1) _ _ (fun j hj => by have := hl (j + 1) (by simp; omega); simpa [Nat.add_assoc, Nat.add_comm 1 j] using this) (by omega) (inv.set hr' (by omega)) hB' hK)

theorem wpAnyIn_of_seq {Q' : Exit → Act → World → Prop} : ∀ (l : List Oper) (k : Nat) (listed : Array Bool) (a : Act) (w : World), (∀ j, l[j]? = ops[k + j]?) →
    Region.seqB md ops l.length k listed = true → wpListIn (fen ro) 0 P ops Q' l a w → wpAnyIn (fen ro) 0 P md ops Q' l.length listed a w
  | [], _, _, _, _, _, hB, h => ⟨by simpa [Region.seqB] using hB, h⟩
  | o :: l, k, listed, a, w, hl, hB, h => by
    have h0 : ops[k]? = some o := by simpa using (hl 0).symm
    simp only [List.length_cons, Region.seqB, Bool.and_eq_true, decide_eq_true_eq] at hB
    refine ⟨fun h1 => (by rw [hB.1] at h1; cases h1), fun i hi => ?_⟩
    rw [hB.1] at hi
    have hik : i = k := by simpa using hi
    subst hik
    have hw : wpOpIn (fen ro) 0 P ops Q' i (wpListIn (fen ro) 0 P ops Q' l) a w := by unfold wpOpIn; simp only [h0]; exact h
    exact wpOpIn_mono (fun a' w' h' => wpAnyIn_of_seq l (i + 1) _ a' w' (fun j => by have := hl (j + 1); simpa [Nat.add_assoc, Nat.add_comm 1 j] using this) hB.2 h') hw
end anyIn

theorem OkW.drew {m : Mem} {fs : List Fact} {w : World} (h : OkW cx m fs w) : OkW cx m fs { w with drawn := w.drawn + 1 } := h.fr0 (Fr.drew w)

/-- Every operation is quiet: one walk in the order of the text. -/
theorem J_regionQ {Kx : Exit → St → Prop} {id : Nat} {l : List Oper} (hm : cx.P.follows .mixedOrders = true) (hB : Region.lexB .any l.toArray = true) (h : LQ cx l.toArray (Kx .normal) l st) : J cx (.region id l.toArray true) Kx st := by
  intro a w ho
  simp only [Region.lexB, Bool.and_eq_true] at hB
  refine wpIn_region_any hm ?_
  have h1 := h (fun a' => ∀ w', OkW cx st.mem st.facts w' → ∃ st', Ok cx st' a' w' ∧ Kx .normal st') a ho.a (fun e' a' ha hk w' hw' => ⟨{ st with env := e' }, ⟨ha, hw'⟩, hk⟩)
  have h2 := wpAnyQ_lex (C := OkW cx st.mem st.facts) (md := .any) hB.1 l 0 (Array.replicate l.toArray.size false) a (by simp) (by simpa using hB.2) h1
  exact wpAnyIn_of_quiet (T := fun a' => ∀ w', OkW cx st.mem st.facts w' → ∃ st', Ok cx st' a' w' ∧ Kx .normal st') (fun a' w' hw' ht => ht w' hw') _ _ _ _ ho.w.drew (by simpa using h2)

/-- All but the last are quiet; the last ones come in the text's order. -/
theorem J_regionT {Kx : Exit → St → Prop} {id : Nat} {l : List Oper} (n : Nat) (hm : cx.P.follows .mixedOrders = true) (hB : Region.lexTailB .any l.toArray n = true)
    (h : LQ cx l.toArray (L cx l.toArray (Kx .normal) (l.drop n)) (l.take n) st) : J cx (.region id l.toArray true) Kx st := by
  intro a w ho
  simp only [Region.lexTailB, Bool.and_eq_true, decide_eq_true_eq] at hB
  obtain ⟨⟨⟨⟨hsel, hn⟩, hs⟩, hc⟩, hlex⟩ := hB
  have hn' : n < l.length := by simpa using hn
  have htl : (l.take n).length = n := by simp; omega
  have hdl : (l.drop n).length = l.toArray.size - n := by simp
  refine wpIn_region_any hm ?_
  have inv0 : HeadInv .any l.toArray n (Array.replicate l.toArray.size false) :=
    ⟨by simp, fun j oj _ hl => (by rw [getD_replicate_false] at hl; cases hl), fun t _ ht => getD_in (by simpa using ht) (getD_replicate_false _ _)⟩
  let Qf : Exit → Act → World → Prop := fun e a w => ∃ st', Ok cx st' a w ∧ Kx e st'
  have h1 := h (fun a' => ∀ w', OkW cx st.mem st.facts w' → wpListIn (fen cx.ro) 0 cx.P l.toArray Qf (l.drop n) a' w') a ho.a
    (fun e' a' ha hk w' hw' => hk Qf a' w' ⟨ha, hw'⟩ (fun st' a2 w2 h2 h3 => ⟨st', h2, h3⟩))
  have H := wpHead_lex (md := .any) (g := l.toArray.size - n) hsel hs hc hn (l.take n) 0 _ a (fun j hj => by
    rw [htl] at hj
    simp [hj]) (by simpa using htl) inv0 (by rw [htl]; exact hlex) h1
  have H2 := wpAnyIn_of_wpHead (ro := cx.ro) (Q' := Qf) (g := l.toArray.size - n) (fun listed a' w' hw' hT => by
    have := wpAnyIn_of_seq (md := .any) (Q' := Qf) (l.drop n) n listed a' w' (fun j => by simp [List.getElem?_drop]) (by rw [hdl]; exact hT.1) (hT.2 w' hw')
    rwa [hdl] at this) _ _ _ _ ho.w.drew H
  rw [htl, show n + (l.toArray.size - n) = l.toArray.size by omega] at H2
  exact H2
end quiet

/-! ### Numbers and rows of bytes -/
theorem ix0 (n : Nat) : 0 + n * 1 = n := by omega
theorem ix1 (a n : Nat) : a + n * 1 = a + n := by omega
theorem q64 {m n : Int} (h0 : 0 ≤ m) (h1 : m ≤ 9223372036854775807) (hn : 0 < n) : IntKind.i64.wrap (m.tdiv n) = m / n := by
  rw [Int.tdiv_eq_ediv_of_nonneg h0]
  have h2 : 0 ≤ m / n := Int.ediv_nonneg h0 (by omega)
  have h3 : m / n ≤ m := Int.ediv_le_self n h0
  exact Go.IntWalk.i64_in _ (by omega)
theorem r64 {m n : Int} (h0 : 0 ≤ m) : m.tmod n = m % n := Int.tmod_eq_emod_of_nonneg h0

/-- Bytes as values. -/
def dg (d : List Int) : List Value := d.map (Value.int .u8)
theorem dg_length (d : List Int) : (dg d).length = d.length := by simp [dg]
/-- The i-th number of a list. -/
def nth (d : List Int) (i : Int) : Int := d.getD i.toNat 0
theorem dg_get {d : List Int} {i : Int} (h0 : 0 ≤ i) (h1 : i < d.length) : (dg d)[i.toNat]? = some (.int .u8 (nth d i)) := by
  have h : i.toNat < d.length := by omega
  simp [dg, nth, h]
theorem dg_set (d : List Int) (i : Nat) (x : Int) : (dg d).set i (.int .u8 x) = dg (d.set i x) := by simp [dg, List.map_set]
theorem dg_one (d : List Int) : ∀ u ∈ dg d, u.oneCell' = true := by
  intro u hu
  obtain ⟨x, _, rfl⟩ := List.mem_map.1 hu
  rfl
theorem dg_inj {a b : List Int} (h : dg a = dg b) : a = b := by
  have := congrArg (List.map fun v => match v with | .int _ n => n | _ => 0) h
  simpa [dg, Function.comp_def] using this
/-- Each is a byte. -/
def Byt (d : List Int) : Prop := ∀ x ∈ d, 0 ≤ x ∧ x < 256
theorem Byt.nth {d : List Int} (h : Byt d) (i : Int) : 0 ≤ nth d i ∧ nth d i < 256 := by
  unfold Sx.nth
  by_cases hi : i.toNat < d.length
  · rw [List.getD_eq_getElem?_getD, List.getElem?_eq_getElem hi]; exact h _ (List.getElem_mem hi)
  · rw [List.getD_eq_getElem?_getD, List.getElem?_eq_none (by omega)]; exact ⟨by decide, by decide⟩
theorem Byt.set {d : List Int} (h : Byt d) (i : Nat) {x : Int} (hx : 0 ≤ x ∧ x < 256) : Byt (d.set i x) := fun y hy =>
  (List.mem_or_eq_of_mem_set hy).elim (h y) (fun e => e ▸ hx)
theorem nth_set {d : List Int} {i j : Int} (h0 : 0 ≤ i) (h1 : i < d.length) (hj : 0 ≤ j) (x : Int) : nth (d.set i.toNat x) j = if j = i then x else nth d j := by
  unfold Sx.nth
  by_cases h : j = i
  · subst h
    rw [if_pos rfl, List.getD_eq_getElem?_getD, List.getElem?_set_self (by omega)]
    rfl
  · rw [if_neg h, List.getD_eq_getElem?_getD, List.getElem?_set_ne (by omega), ← List.getD_eq_getElem?_getD]
def zd : List Int := List.replicate 32 0
theorem zd_length : zd.length = 32 := rfl
theorem zd_byt : Byt zd := by intro x hx; simp [zd] at hx; omega

/-! ### Tests of equality; bools; bytes of a constant -/
section tests
variable {cx : Cx} {o : Oper} {st : St}

theorem run_unless {P : Program} {w : World} {b : Bool} {t : TypeId} {x y : Operand} {xs ys : Array Value} {op : BinOp} (hop : op = .eql ∨ op = .neq) (hg : P.eqGuardType P.depth t = false) : (eqGuard op t x y (.agg xs) (.agg ys)).run P w = .ok () w := by
  rcases hop with rfl | rfl <;>
  · unfold eqGuard
    simp only [Bool.not_true, Bool.false_eq_true, if_false]
    rw [Sem.run_bind]
    show Result.andThen (Result.ok P w) _ = _
    simp only [Result.andThen_ok]
    rw [Sem.run_bind]
    show Result.andThen (Result.ok P w) _ = _
    simp only [Result.andThen_ok, hg, Bool.not_false, if_true]
    rfl

theorem V_eqAgg {t yt : TypeId} {x y : Operand} {xs ys : Array Value} {b r : Bool} (ho : o.op = .binOp .eql t x y yt) (hx : ev st.env x = some (.agg xs)) (hy : ev st.env y = some (.agg ys)) (hg : cx.P.eqGuardType cx.P.depth t = false)
    (hr : ∀ w, (Op.equal t (.agg xs) (.agg ys)).run cx.P w = .ok b w) (he : b = r) : V cx o st (.bool r) :=
  ⟨nd ho (fun c h => by cases h), fun a w h => by
    subst he
    unfold execOp; rw [ho]
    simp only [h.a.ev hx, h.a.ev hy, Sem.run_bind, run_unless (.inl rfl) hg (w := w) (b := b), Result.andThen_ok, binOp, hr w, Sem.run_pure]⟩
theorem V_neAgg {t yt : TypeId} {x y : Operand} {xs ys : Array Value} {b r : Bool} (ho : o.op = .binOp .neq t x y yt) (hx : ev st.env x = some (.agg xs)) (hy : ev st.env y = some (.agg ys)) (hg : cx.P.eqGuardType cx.P.depth t = false)
    (hr : ∀ w, (Op.equal t (.agg xs) (.agg ys)).run cx.P w = .ok b w) (he : (!b) = r) : V cx o st (.bool r) :=
  ⟨nd ho (fun c h => by cases h), fun a w h => by
    subst he
    unfold execOp; rw [ho]
    simp only [h.a.ev hx, h.a.ev hy, Sem.run_bind, run_unless (.inr rfl) hg (w := w) (b := b), Result.andThen_ok, binOp, hr w, Sem.run_pure]⟩

theorem eqItems_dg {P : Program} {e : TypeId} {k : IntKind} (he : P.underlying e = some (.int k)) (hz : P.cellsOf e = 1) (d : Nat) (xs ys : List Int) (w : World) : ∀ (n i : Nat), i + n ≤ xs.length → i + n ≤ ys.length →
    (Op.eqItems (d + 1) e (P.cellsOf e) (dg xs).toArray (dg ys).toArray (List.range' i n)).run P w = .ok (decide ((xs.drop i).take n = (ys.drop i).take n)) w
  | 0, i, _, _ => by simp [Op.eqItems]
  | n + 1, i, hx, hy => by
    have ih := eqItems_dg he hz d xs ys w n (i + 1) (by omega) (by omega)
    have hpk : P.plainKey e = true := by simp [Program.plainKey, he]
    have hi1 : i < xs.length := by omega
    have hi2 : i < ys.length := by omega
    have p1 : (part e (dg xs).toArray (i * P.cellsOf e)).run P w = .ok (.int .u8 xs[i]) w := run_part_plain (w := w) hpk (by simp [hz, dg, hi1])
    have p2 : (part e (dg ys).toArray (i * P.cellsOf e)).run P w = .ok (.int .u8 ys[i]) w := run_part_plain (w := w) hpk (by simp [hz, dg, hi2])
    rw [List.range'_succ]
    simp only [Op.eqItems, Sem.run_bind, p1, p2, Result.andThen_ok, run_equalIn_int w d e .u8 k xs[i] ys[i] he]
    rw [List.drop_eq_getElem_cons hi1, List.drop_eq_getElem_cons hi2, List.take_succ_cons, List.take_succ_cons]
    by_cases hxy : xs[i] = ys[i]
    · simp only [hxy, beq_self_eq_true, Bool.not_true, Bool.false_eq_true, if_false, List.cons.injEq, true_and]
      exact ih
    · simp [hxy]

theorem run_eqDg {P : Program} {t e : TypeId} {k : IntKind} {n : Nat} (hu : P.underlying t = some (.array n e)) (he : P.underlying e = some (.int k)) (hz : (P.info? e).map (·.size) = some 1) {xs ys : List Int} (hx : xs.length = n) (hy : ys.length = n) (w : World) (d : Nat) :
    (Op.equalIn (d + 1 + 1) t (.agg (dg xs).toArray) (.agg (dg ys).toArray)).run P w = .ok (decide (xs = ys)) w := by
  have hc : P.cellsOf e = 1 := by simp [Program.cellsOf, hz]
  cases hq : P.info? e with
  | none => simp [hq] at hz
  | some i =>
    rw [run_equalIn_array w (d + 1) (dg xs).toArray (dg ys).toArray hu hq, List.range_eq_range']
    rw [eqItems_dg he hc d xs ys w n 0 (by omega) (by omega)]
    simp [← hx, hx ▸ hy, List.take_of_length_le]

theorem V_eqD {t e yt : TypeId} {k : IntKind} {n : Nat} {x y : Operand} {xs ys : List Int} {r : Bool} (ho : o.op = .binOp .eql t x y yt) (hx : ev st.env x = some (.agg (dg xs).toArray)) (hy : ev st.env y = some (.agg (dg ys).toArray)) (hg : cx.P.eqGuardType cx.P.depth t = false)
    (hu : cx.P.underlying t = some (.array n e)) (he : cx.P.underlying e = some (.int k)) (hz : (cx.P.info? e).map (·.size) = some 1) (hlx : xs.length = n) (hly : ys.length = n) (hr : decide (xs = ys) = r) : V cx o st (.bool r) :=
  V_eqAgg ho hx hy hg (fun w => run_eqDg hu he hz hlx hly w 9998) hr
theorem V_neD {t e yt : TypeId} {k : IntKind} {n : Nat} {x y : Operand} {xs ys : List Int} {r : Bool} (ho : o.op = .binOp .neq t x y yt) (hx : ev st.env x = some (.agg (dg xs).toArray)) (hy : ev st.env y = some (.agg (dg ys).toArray)) (hg : cx.P.eqGuardType cx.P.depth t = false)
    (hu : cx.P.underlying t = some (.array n e)) (he : cx.P.underlying e = some (.int k)) (hz : (cx.P.info? e).map (·.size) = some 1) (hlx : xs.length = n) (hly : ys.length = n) (hr : decide (xs ≠ ys) = r) : V cx o st (.bool r) :=
  V_neAgg ho hx hy hg (fun w => run_eqDg hu he hz hlx hly w 9998) (by rw [← hr]; simp)

theorem V_not {t : TypeId} {x : Operand} {b r : Bool} (ho : o.op = .unOp .not t x) (hx : ev st.env x = some (.bool b)) (hr : (!b) = r) : V cx o st (.bool r) :=
  ⟨nd ho (fun c h => by cases h), fun a w h => by
    subst hr
    unfold execOp; rw [ho]
    simp only [h.a.ev hx]; rfl⟩
theorem V_eqB {t yt : TypeId} {x y : Operand} {b c r : Bool} (ho : o.op = .binOp .eql t x y yt) (hx : ev st.env x = some (.bool b)) (hy : ev st.env y = some (.bool c)) (hu : cx.P.underlying t = some .bool) (hr : (b == c) = r) : V cx o st (.bool r) :=
  ⟨nd ho (fun c h => by cases h), fun a w h => by
    subst hr
    unfold execOp; rw [ho]
    have hg : (eqGuard .eql t x y (.bool b) (.bool c)).run cx.P w = .ok () w := rfl
    simp only [h.a.ev hx, h.a.ev hy, Sem.run_bind, hg, Result.andThen_ok, binOp, run_equal_bool w t b c hu, Sem.run_pure]⟩
theorem V_neB {t yt : TypeId} {x y : Operand} {b c r : Bool} (ho : o.op = .binOp .neq t x y yt) (hx : ev st.env x = some (.bool b)) (hy : ev st.env y = some (.bool c)) (hu : cx.P.underlying t = some .bool) (hr : (!(b == c)) = r) : V cx o st (.bool r) :=
  ⟨nd ho (fun c h => by cases h), fun a w h => by
    subst hr
    unfold execOp; rw [ho]
    have hg : (eqGuard .neq t x y (.bool b) (.bool c)).run cx.P w = .ok () w := rfl
    simp only [h.a.ev hx, h.a.ev hy, Sem.run_bind, hg, Result.andThen_ok, binOp, run_equal_bool w t b c hu, Sem.run_pure]⟩
/-- A byte of a string. -/
theorem V_indexStr {t : TypeId} {x y : Operand} {s : ByteArray} {k : IntKind} {n r : Int} (ho : o.op = .index t x y) (hx : ev st.env x = some (.string s)) (hy : ev st.env y = some (.int k n)) (hu : cx.P.underlying t = some .string) (h0 : 0 ≤ n)
    (hr : s[n.toNat]?.map (fun b => (b.toNat : Int)) = some r) : V cx o st (.int .u8 r) :=
  ⟨nd ho (fun c h => by cases h), fun a w h => by
    unfold execOp; rw [ho]
    cases hb : s[n.toNat]? with
    | none => simp [hb] at hr
    | some b =>
      have hbr : (b.toNat : Int) = r := by simpa [hb] using hr
      simp only [h.a.ev hx, h.a.ev hy, Instr.index, asIntOf, Sem.run_bind, Sem.run_pure, Result.andThen_ok, run_underlying hu, if_pos h0, hb]
      simp [hbr]⟩
end tests

/-! ### Slices of bytes -/
section slices
variable {cx : Cx} {o : Oper} {st : St}

/-- The slice reads as these bytes. -/
def SlB (w : World) (v : Value) (l : List Int) : Prop :=
  (l = [] ∧ ∃ a c, v = .slice a 0 c) ∨ ∃ b off c, v = .slice (some ⟨b, off, none⟩) l.length c ∧ ∀ (j : Nat) (x : Int), l[j]? = some x → w.cell? ⟨b, off + j, none⟩ = some (.int .u8 x)

theorem SlB.dep {w w' : World} {v : Value} {l : List Int} (hk : ∀ k, (l ≠ [] ∧ ∃ off n c, v = .slice (some ⟨k, off, none⟩) n c) → w'.heap[k]? = w.heap[k]?) (h : SlB w v l) : SlB w' v l := by
  rcases h with h | ⟨b, off, c, rfl, h⟩
  · exact .inl h
  · refine .inr ⟨b, off, c, rfl, fun j x hj => ?_⟩
    rw [World.cell?_of_block (w := w) (hk b ⟨fun e => by rw [e] at hj; simp at hj, off, _, c, rfl⟩)]
    exact h j x hj
theorem SlB.fr {w w' : World} {v : Value} {l : List Int} (h : SlB w v l) (hf : Fr [] w w') : SlB w' v l := by
  rcases h with h | ⟨b, off, c, rfl, h⟩
  · exact .inl h
  · refine .inr ⟨b, off, c, rfl, fun j x hj => ?_⟩
    have hc := h j x hj
    have hlt : b < w.heap.size := World.block_lt_of_cell? w _ hc
    rw [World.cell?_of_block (w := w) (hf.block b hlt (by simp))]
    exact hc
/-- As a fact that stays. -/
def factB (v : Value) (l : List Int) : Fact :=
  { fp := fun k => l ≠ [] ∧ ∃ off n c, v = .slice (some ⟨k, off, none⟩) n c, p := fun w => SlB w v l, dep := fun _ _ hk h => h.dep hk }
theorem SlB.of_block {w : World} {b : Nat} {l : List Int} {T : TypeId} {fz : Nat × Nat} (h : w.heap[b]? = some (.cells (dg l).toArray T fz)) (c : Nat) : SlB w (.slice (some ⟨b, 0, none⟩) l.length c) l :=
  .inr ⟨b, 0, c, rfl, fun j x hj => cell_of h (by
    have hlt := (List.getElem?_eq_some_iff.1 hj).1
    have e := (List.getElem?_eq_some_iff.1 hj).2
    simp [dg, hlt, e])⟩
theorem SlB.of_mem {m : Mem} {fs : List Fact} {i b : Nat} {l : List Int} {T : TypeId} {fz : Nat × Nat} {w : World} (h : OkW cx m fs w) (hi : m[i]? = some (b, .cells (dg l).toArray T fz)) (c : Nat) : SlB w (.slice (some ⟨b, 0, none⟩) l.length c) l :=
  SlB.of_block (h.at hi) c

theorem SlB.of_mem' {m : Mem} {fs : List Fact} {i b n : Nat} {l : List Int} {T : TypeId} {fz : Nat × Nat} {w : World} (h : OkW cx m fs w) (hi : m[i]? = some (b, .cells (dg l).toArray T fz)) (hl : l.length = n) (c : Nat) : SlB w (.slice (some ⟨b, 0, none⟩) n c) l :=
  hl ▸ SlB.of_mem h hi c

def ba (l : List Int) : ByteArray := ⟨(l.map fun x => x.toNat.toUInt8).toArray⟩
theorem run_loadBytes {P : Program} {w : World} : ∀ (l : List Int) (a : Addr) (acc : ByteArray), (∀ (j : Nat) (x : Int), l[j]? = some x → w.cell? (a.add j) = some (.int .u8 x)) → (∀ off j, (a.add off).add j = a.add (off + j)) →
    (Extern.Bytes.loadBytes a l.length acc).run P w = .ok (ByteArray.mk (acc.data ++ (ba l).data)) w
  | [], a, acc, _, _ => by simp [Extern.Bytes.loadBytes, ba]
  | x :: l, a, acc, h, hadd => by
    have h0 : w.cell? a = some (.int .u8 x) := by
      have := h 0 x (by simp)
      simpa [Addr.add] using this
    have ih := run_loadBytes (P := P) (w := w) l (a.add 1) (acc.push x.toNat.toUInt8) (fun j y hj => by
      rw [hadd, Nat.add_comm]
      exact h (j + 1) y (by simpa using hj)) (fun off j => by rw [hadd, hadd, hadd, Nat.add_assoc])
    simp only [List.length_cons, Extern.Bytes.loadBytes, Sem.run_bind, run_load, h0, Result.andThen_ok]
    rw [ih]
    congr 2
    simp [ba, ByteArray.push]
theorem add_add (b off i j : Nat) : ((⟨b, off, none⟩ : Addr).add i).add j = (⟨b, off, none⟩ : Addr).add (i + j) := by simp only [add_at, Nat.add_assoc]
theorem run_bytesOf {P : Program} {w : World} {v : Value} {l : List Int} (h : SlB w v l) : (Extern.Bytes.bytesOf v).run P w = .ok (ba l) w := by
  rcases h with ⟨rfl, a, c, rfl⟩ | ⟨b, off, c, rfl, h⟩
  · cases a with
    | none => rfl
    | some a => rfl
  · have := run_loadBytes (P := P) (w := w) l ⟨b, off, none⟩ .empty (fun j x hj => by rw [add_at]; exact h j x hj) (fun i j => add_add b off i j)
    simp only [Extern.Bytes.bytesOf, this]
    show Result.ok (ByteArray.mk (#[] ++ (ba l).data)) w = _
    rw [Array.empty_append]

/-- A function that the model itself carries out. -/
theorem V_callX {x : Operand} {args : Array Operand} {at_ : Array TypeId} {f : FuncId} {fn : Func} {e : Array Value → Sem Value} {vs : List Value} {v : Value} (ho : o.op = .call { callee := .value x, args := args, argTypes := at_ })
    (hx : ev st.env x = some (.func (.func f) #[] #[])) (hv : evs st.env args.toList = some vs) (hf : cx.P.funcs[f]? = some fn) (hname : (fn.name == "runtime.NumGoroutine") = false) (hb : fn.body.isNone = true) (hn : Extern.findNext fn = none) (he : Extern.find fn = some e)
    (hr : ∀ w, OkW cx st.mem st.facts w → (e vs.toArray).run cx.P w = .ok v w) : V cx o st v :=
  ⟨nd ho (fun c h => by cases h), fun a w h => by
    unfold execOp; rw [ho]
    have e1 : args.map a.eval = vs.toArray := Array.ext' (by rw [Array.toList_map, h.a.evs hv])
    simp only [resolve, h.a.ev hx, e1, Deferred.ofValue, Sem.run_bind, Sem.run_pure, Result.andThen_ok, invoke, Array.empty_append, Array.append_empty, run_callFunc_extern hf hname hb hn he, hr w h.w]⟩

/-- An array's slice as a whole. -/
theorem V_sliceArr {t e : TypeId} {x : Operand} {n sz b off : Nat} (ho : o.op = .slice t x none none none) (hx : ev st.env x = some (.pointer (some ⟨b, off, none⟩))) (hu : cx.P.underlying t = some (.array n e)) (hz : (cx.P.info? e).map (·.size) = some sz) : V cx o st (.slice (some ⟨b, off, none⟩) n n) :=
  ⟨nd ho (fun c h => by cases h), fun a w h => by
    unfold execOp; rw [ho]
    simp only [h.a.ev hx, Instr.sliceAt, Instr.sliceBounds, Instr.sureAddr, Sem.run_bind, Sem.run_pure, Result.andThen_ok, run_underlying hu, run_sizeOf hz, Option.map_none, Nat.zero_mul, Nat.sub_zero, add_at, Nat.add_zero]
    split <;> rfl⟩
theorem factB_lt {w : World} {v : Value} {l : List Int} (h : SlB w v l) : ∀ k, (factB v l).fp k → k < w.heap.size := by
  rintro k ⟨hne, off, n, c, rfl⟩
  rcases h with h | ⟨b, off', c', e, h⟩
  · exact absurd h.1 hne
  · simp only [Value.slice.injEq, Option.some.injEq, Addr.mk.injEq] at e
    obtain ⟨⟨rfl, rfl, _⟩, rfl, rfl⟩ := e
    cases l with
    | nil => exact absurd rfl hne
    | cons x l =>
      exact World.block_lt_of_cell? w _ (h 0 x rfl)
theorem okW_facts {P : Program} {w : World} {nt : Nat} {mods : List Nat} {fs : List Fact} (h : ∀ f ∈ fs, f.p w ∧ ∀ k, f.fp k → k < w.heap.size) : OkW { P := P, w0 := w, nt := nt, mods := mods } [] fs w :=
  ⟨by simp, by simp, by simp, fun f hf => ⟨(h f hf).1, fun k hk => ⟨(h f hf).2 k hk, by simp⟩⟩, Fr.refl _ _⟩
theorem okW_facts2 {P : Program} {w : World} {nt : Nat} {u v : Value} {a b : List Int} (hu : SlB w u a) (hv : SlB w v b) : OkW { P := P, w0 := w, nt := nt, mods := [] } [] [factB u a, factB v b] w :=
  okW_facts fun f hf => by
    simp only [List.mem_cons, List.not_mem_nil, or_false] at hf
    rcases hf with rfl | rfl
    · exact ⟨hu, factB_lt hu⟩
    · exact ⟨hv, factB_lt hv⟩
end slices

/-! ### Append, copies, strings -/
section append
variable {cx : Cx} {o : Oper} {st : St} {ops : Array Oper} {K : St → Prop} {rest : List Oper}

/-- In the i-th block's place stands another. -/
def swapMem (m : Mem) (i : Nat) (g : Nat) (p : Obj) : Mem := m.set i (g, p)

theorem nodup_setNew : ∀ {l : List Nat} (i : Nat) {g : Nat}, l.Nodup → g ∉ l → (l.set i g).Nodup
  | [], _, _, _, _ => by simp
  | x :: l, 0, g, hd, hg => by
    simp only [List.set_cons_zero, List.nodup_cons, List.mem_cons, not_or] at *
    exact ⟨hg.2, hd.2⟩
  | x :: l, i + 1, g, hd, hg => by
    simp only [List.set_cons_succ, List.nodup_cons, List.mem_cons, not_or] at *
    refine ⟨fun h => ?_, nodup_setNew i hd.2 hg.2⟩
    rcases List.mem_or_eq_of_mem_set h with h1 | h1
    · exact hd.1 h1
    · exact hg.1 h1.symm

theorem OkW.swap {m : Mem} {fs : List Fact} {w w' : World} (h : OkW cx m fs w) {i b g : Nat} {p p' : Obj} (hi : m[i]? = some (b, p)) (hfr : Fr [b] w w') (hp : w'.heap[g]? = some p') (hg : g = b ∨ w.heap.size ≤ g) : OkW cx (swapMem m i g p') fs w' := by
  have hb : b ∈ m.map (·.1) := List.mem_map.2 ⟨_, List.mem_of_getElem? hi, rfl⟩
  have hlt := (List.getElem?_eq_some_iff.1 hi).1
  refine h.step hfr (by simpa using hb) (fun c q hq => ?_) ?_ (fun f hf => .inl hf)
  · obtain ⟨j, hj⟩ := List.mem_iff_getElem?.1 hq
    unfold swapMem at hj
    by_cases hij : i = j
    · subst hij
      simp only [List.getElem?_set, hlt, if_true, Option.some.injEq, Prod.mk.injEq] at hj
      obtain ⟨rfl, rfl⟩ := hj
      exact ⟨hp, hg.elim (fun e => .inr (e ▸ hb)) .inl⟩
    · rw [List.getElem?_set_ne hij] at hj
      have hne : c ≠ b := fun e => by subst e; exact hij (key_unique h.dis hi hj)
      have hm := List.mem_of_getElem? hj
      exact ⟨(hfr.block c (h.lt (List.mem_map.2 ⟨_, hm, rfl⟩)) (by simpa using hne)).trans (h.mem c q hm), .inr (List.mem_map.2 ⟨_, hm, rfl⟩)⟩
  · unfold swapMem
    rcases hg with rfl | hg
    · rw [nodup_set hi]; exact h.dis
    · rw [List.map_set]
      exact nodup_setNew i h.dis (fun hm => by have := h.lt hm; omega)

theorem OkW.add {m : Mem} {fs : List Fact} {w w' : World} (h : OkW cx m fs w) {g : Nat} {p' : Obj} (hfr : Fr [] w w') (hp : w'.heap[g]? = some p') (hg : w.heap.size ≤ g) : OkW cx (m ++ [(g, p')]) fs w' := by
  refine h.step hfr (by simp) (fun c q hq => ?_) ?_ (fun f hf => .inl hf)
  · rcases List.mem_append.1 hq with h1 | h1
    · exact ⟨(hfr.block c (h.lt (List.mem_map.2 ⟨_, h1, rfl⟩)) (by simp)).trans (h.mem c q h1), .inr (List.mem_map.2 ⟨_, h1, rfl⟩)⟩
    · simp only [List.mem_singleton, Prod.mk.injEq] at h1
      obtain ⟨rfl, rfl⟩ := h1
      exact ⟨hp, .inl hg⟩
  · rw [List.map_append, List.nodup_append]
    refine ⟨h.dis, by simp, fun a ha c hc => ?_⟩
    simp only [List.map_cons, List.map_nil, List.mem_singleton] at hc
    subst hc
    have := h.lt ha
    exact Nat.ne_of_lt (Nat.lt_of_lt_of_le this hg)

/-- What is appended. -/
def SrcAt (cx : Cx) (st : St) (size : Nat) (tx : TypeId) (x : Value) (n : Nat) (news : List Value) : Prop := ∀ w, OkW cx st.mem st.facts w → Src cx.P size tx x n news w

/-- The element's row of the table. -/
structure ElemOf (P : Program) (e : TypeId) (size bytes : Nat) (z : Value) : Prop where
  ex : ∃ i, P.info? e = some i ∧ i.zero = some z ∧ i.size = size ∧ i.bytes = bytes
  zs : z.cells.size = size

theorem elem_of {P : Program} {e : TypeId} {size bytes : Nat} {z : Value} (h : (P.info? e).map (fun i => (i.zero, i.size, i.bytes)) = some (some z, size, bytes)) (hz : z.cells.size = size) : ElemOf P e size bytes z := by
  refine ⟨?_, hz⟩
  cases hq : P.info? e with
  | none => simp [hq] at h
  | some i =>
    simp only [hq, Option.map_some, Option.some.injEq, Prod.mk.injEq] at h
    exact ⟨i, rfl, h.1, h.2.1, h.2.2⟩

theorem zeroCells_size (z : Array Value) (n : Nat) : (Builtin.zeroCells z n).size = n * z.size := by simp [Builtin.zeroCells]

theorem run_builtin {a : Act} {env : Env} {ds : List Deferred} (ha : OkA cx env ds a) {args : Array Operand} {at_ : Array TypeId} {b : Builtin} {vs : List Value} (ho : o.op = .call { callee := .builtin b, args := args, argTypes := at_ })
    (hv : evs env args.toList = some vs) (w : World) : ∃ cs : Array Bool, (execOp a.eval o).run cx.P w = (builtin b at_ o.type cs vs.toArray).run cx.P w := by
  refine ⟨args.map fun | .const _ => true | _ => false, ?_⟩
  unfold execOp; rw [ho]
  have e1 : args.map a.eval = vs.toArray := Array.ext' (by rw [Array.toList_map, ha.evs hv])
  simp only [resolve, e1, Sem.run_bind, Sem.run_pure, Result.andThen_ok, invoke]
  rfl

theorem run_append_op {a : Act} {env : Env} {ds : List Deferred} (ha : OkA cx env ds a) {args : Array Operand} {at_ : Array TypeId} {vs : List Value} {v : Value} {w w' : World} (ho : o.op = .call { callee := .builtin .append, args := args, argTypes := at_ })
    (hv : evs env args.toList = some vs) (hr : (Builtin.append_ at_ o.type vs.toArray).run cx.P w = .ok v w') : (execOp a.eval o).run cx.P w = .ok (.value v) w' := by
  obtain ⟨cs, e⟩ := run_builtin ha ho hv w
  rw [e]
  simp only [builtin, Sem.run_bind, hr, Result.andThen_ok, Sem.run_pure]

/-- Append to what has no room: a new block. -/
theorem S_appendG {K : St → Prop} {args : Array Operand} {t tx e : TypeId} {d size bytes n m cap : Nat} {z x : Value} {ao : Option Addr} {olds news : List Value} (ho : o.op = .call { callee := .builtin .append, args := args, argTypes := #[t, tx] }) (hd : o.dst = some d) (hlt : Nat.blt d cx.nt = true)
    (hv : evs st.env args.toList = some [.slice ao n cap, x]) (ht : cx.P.underlying t = some (.slice e)) (he : ElemOf cx.P e size bytes z)
    (hold : ∀ w, OkW cx st.mem st.facts w → (Builtin.firstCells size n (.slice ao n cap)).run cx.P w = .ok olds.toArray w) (hsrc : SrcAt cx st size tx x m news) (hcap : cap < n + m) (hb : (n + m) * bytes ≤ 140737488355328) (h63 : n + m ≤ 9223372036854775807)
    (h : ∀ (g c : Nat) (r : List Value), n + m ≤ c → r.length = (c - (n + m)) * size → K { st with env := (d, .slice (some ⟨g, 0, none⟩) (n + m) c) :: st.env, mem := st.mem ++ [(g, row e (olds ++ news ++ r))] }) : S cx o K st := by
  intro Q next a w hok hk
  obtain ⟨⟨i, hi, hz, hs, hby⟩, hzs⟩ := he
  have hdr : OkW cx st.mem st.facts w.drew := hok.w.fr0 (Fr.drew w)
  have hr := run_append_grow_src (P := cx.P) w t tx o.type e i z ht hi hz ao n cap olds (by rw [hs]; exact hold _ hdr) x m news (by rw [hs]; exact hsrc w hok.w) hcap (by omega) (by rw [hby]; exact growslice_fits hcap hb)
  have hval := run_append_op hok.a ho hv hr
  refine wpIn_value (nd ho (fun c h => by cases h)) hval ?_
  rw [hd]
  refine hk _ _ _ ⟨hok.a.put hlt _, ?_⟩ (h w.heap.size (grownCap w (n + m) cap e) (Builtin.zeroCells z.cells (grownCap w (n + m) cap e - (n + m))).toList (grownCap_ge _ _ _ _) (by simp [zeroCells_size, hzs]))
  have hal : Fr [] w (w.drew.alloc (.cells ((olds ++ news).toArray ++ Builtin.zeroCells z.cells (grownCap w (n + m) cap e - (n + m))) e)) := (Fr.drew w).trans (Fr.alloc w.drew _)
  refine hok.w.add hal ?_ (Nat.le_refl _)
  rw [show w.heap.size = w.drew.heap.size from rfl, heap_alloc_new]
  congr 1
  congr 1
  apply Array.ext'
  simp

theorem run_append_room_row {P : Program} (w : World) (t tx ty e : TypeId) (i : TypeInfo) (ht : P.underlying t = some (.slice e)) (hi : P.info? e = some i) (b sLen sCap : Nat) (x : Value) (n : Nat) (cur news : List Value) (hs : Src P i.size tx x n news w)
    (hroom : sLen + n ≤ sCap) (hg : w.heap[b]? = some (row e cur)) (hfit : sLen * i.size + news.length ≤ cur.length) :
    (Builtin.append_ #[t, tx] ty #[.slice (some ⟨b, 0, none⟩) sLen sCap, x]).run P w = .ok (.slice (some ⟨b, 0, none⟩) (sLen + n) sCap) (w.setRow b (cur.take (sLen * i.size) ++ news ++ cur.drop (sLen * i.size + news.length)).toArray) := by
  have hst := run_storeCells_at P b (sLen * i.size) e news 0 cur.toArray w hg (by simpa using hfit) hs.one
  simp only [Nat.add_zero] at hst
  rcases hs.kind with ⟨e', hk⟩ | hk <;> simp [Builtin.append_, run_underlying ht, run_underlying hk, sizeOf, typeInfo, hi, hs.len, hroom, hs.cells, add_at, hst]

theorem read_own {P : Program} {w : World} {b n cap size : Nat} {e : TypeId} {fz : Nat × Nat} {ks r0 : List Value} (hh : w.heap[b]? = some (.cells (ks ++ r0).toArray e fz)) (hks : ks.length = n * size) :
    (Builtin.firstCells size n (.slice (some ⟨b, 0, none⟩) n cap)).run P w = .ok ks.toArray w := by
  refine run_firstCells_some w size n _ n cap ks hks (fun j u hj => ?_)
  rw [add_at, Nat.zero_add]
  exact cell_of hh (by
    have hjl := (List.getElem?_eq_some_iff.1 hj).1
    have hje := (List.getElem?_eq_some_iff.1 hj).2
    simp [List.getElem?_append, hjl, hje])

theorem append_own {m0 : Mem} {fs : List Fact} {w : World} (hw : OkW cx m0 fs w) {t tx ty e : TypeId} {i size bytes n m cap b : Nat} {z x : Value} {ks r0 news : List Value} (ht : cx.P.underlying t = some (.slice e)) (he : ElemOf cx.P e size bytes z) (hi : m0[i]? = some (b, row e (ks ++ r0))) (hks : ks.length = n * size) (hr0 : r0.length = (cap - n) * size) (hnc : n ≤ cap)
    (hsrc : Src cx.P size tx x m news w) (hb : (n + m) * bytes ≤ 140737488355328) (h63 : n + m ≤ 9223372036854775807) :
    ∃ g c r w', (Builtin.append_ #[t, tx] ty #[.slice (some ⟨b, 0, none⟩) n cap, x]).run cx.P w = .ok (.slice (some ⟨g, 0, none⟩) (n + m) c) w' ∧ n + m ≤ c ∧ r.length = (c - (n + m)) * size ∧ OkW cx (swapMem m0 i g (row e (ks ++ news ++ r))) fs w' := by
  obtain ⟨⟨ti, hti, hz, hs, hby⟩, hzs⟩ := he
  have hh := hw.at hi
  by_cases hcap : cap < n + m
  · have hr := run_append_grow_src (P := cx.P) w t tx ty e ti z ht hti hz (some ⟨b, 0, none⟩) n cap ks (by rw [hs]; exact read_own (w := w.drew) (e := e) (fz := (0, 0)) hh hks) x m news (by rw [hs]; exact hsrc) hcap (by omega) (by rw [hby]; exact growslice_fits hcap hb)
    refine ⟨w.heap.size, grownCap w (n + m) cap e, (Builtin.zeroCells z.cells (grownCap w (n + m) cap e - (n + m))).toList, _, hr, grownCap_ge _ _ _ _, by simp [zeroCells_size, hzs], ?_⟩
    have hal : Fr [] w (w.drew.alloc (.cells ((ks ++ news).toArray ++ Builtin.zeroCells z.cells (grownCap w (n + m) cap e - (n + m))) e)) := (Fr.drew w).trans (Fr.alloc w.drew _)
    refine hw.swap hi (hal.mono (by simp)) ?_ (.inr (Nat.le_refl _))
    rw [show w.heap.size = w.drew.heap.size from rfl, heap_alloc_new]
    congr 1
    congr 1
    apply Array.ext'
    simp
  · have hfit : n * ti.size + news.length ≤ (ks ++ r0).length := by
      rw [hs, List.length_append, hks, hr0, hsrc.newsLen, ← Nat.add_mul, ← Nat.add_mul]
      exact Nat.mul_le_mul_right _ (by omega)
    have hr := run_append_room_row (P := cx.P) w t tx ty e ti ht hti b n cap x m (ks ++ r0) news (by rw [hs]; exact hsrc) (by omega) hh hfit
    refine ⟨b, cap, r0.drop news.length, _, hr, by omega, ?_, ?_⟩
    · rw [List.length_drop, hr0, hsrc.newsLen, ← Nat.sub_mul]
      congr 1
      omega
    · refine hw.swap hi (Fr.setRow _) ?_ (.inl rfl)
      rw [setRow_same w b _ _ e (0, 0) hh]
      congr 2
      rw [hs, ← hks]
      simp [List.take_append, List.drop_append]

theorem S_appendO {K : St → Prop} {args : Array Operand} {t tx e : TypeId} (i : Nat) {d size bytes n m cap b : Nat} {z x : Value} {ks r0 news : List Value} (ho : o.op = .call { callee := .builtin .append, args := args, argTypes := #[t, tx] }) (hd : o.dst = some d) (hlt : Nat.blt d cx.nt = true)
    (hv : evs st.env args.toList = some [.slice (some ⟨b, 0, none⟩) n cap, x]) (ht : cx.P.underlying t = some (.slice e)) (he : ElemOf cx.P e size bytes z) (hi : st.mem[i]? = some (b, row e (ks ++ r0))) (hks : ks.length = n * size) (hr0 : r0.length = (cap - n) * size) (hnc : n ≤ cap)
    (hsrc : SrcAt cx st size tx x m news) (hb : (n + m) * bytes ≤ 140737488355328) (h63 : n + m ≤ 9223372036854775807)
    (h : ∀ (g c : Nat) (r : List Value), n + m ≤ c → r.length = (c - (n + m)) * size → K { st with env := (d, .slice (some ⟨g, 0, none⟩) (n + m) c) :: st.env, mem := swapMem st.mem i g (row e (ks ++ news ++ r)) }) : S cx o K st := by
  intro Q next a w hok hk
  obtain ⟨g, c, r, w', hr, hc, hrl, hw'⟩ := append_own (ty := o.type) hok.w ht he hi hks hr0 hnc (hsrc w hok.w) hb h63
  refine wpIn_value (nd ho (fun c h => by cases h)) (run_append_op hok.a ho hv hr) ?_
  rw [hd]
  exact hk _ _ _ ⟨hok.a.put hlt _, hw'⟩ (h g c r hc hrl)

/-- A slice of one block, written out. -/
theorem L_buildSlice {t e : TypeId} {parts : Array (Nat × Operand)} {d len : Nat} {vs : List (Nat × Value)} {l : List Value} (hg : o.guard = none) (ho : o.op = .buildSlice t len parts) (hd : o.dst = some d) (hlt : Nat.blt d cx.nt = true)
    (hp : parts.toList.map (fun p => (p.1, ev st.env p.2)) = vs.map (fun p => (p.1, some p.2))) (hr : ∀ w, (Instr.buildSlice t len vs.toArray).run cx.P w = .ok (.slice (some ⟨w.heap.size, 0, none⟩) len len) (w.alloc (row e l)))
    (h : ∀ g, L cx ops K rest { st with env := (d, .slice (some ⟨g, 0, none⟩) len len) :: st.env, mem := st.mem ++ [(g, row e l)] }) : L cx ops K (o :: rest) st := by
  refine L_cons hg fun Q next a w hok hk => ?_
  have e1 : parts.map (fun p => (p.1, a.eval p.2)) = vs.toArray := by
    apply Array.ext'
    simp only [Array.toList_map]
    have hl : parts.toList.length = vs.length := by simpa using congrArg List.length hp
    apply List.ext_getElem
    · simpa using hl
    · intro i h1 h2
      have h3 : i < parts.toList.length := by simpa using h1
      have := congrArg (fun l => l[i]?) hp
      simp only [List.getElem?_map, List.getElem?_eq_getElem h3, List.getElem?_eq_getElem (show i < vs.length by simpa using h2), Option.map_some, Option.some.injEq, Prod.mk.injEq] at this
      simp only [List.getElem_map]
      rw [hok.a.ev this.2, this.1]
  have hval : (execOp a.eval o).run cx.P w = .ok (.value (.slice (some ⟨w.heap.size, 0, none⟩) len len)) (w.alloc (row e l)) := by
    unfold execOp; rw [ho]
    simp only [e1, Sem.run_bind, hr w, Result.andThen_ok, Sem.run_pure]
  refine wpIn_value (nd ho (fun c h => by cases h)) hval ?_
  rw [hd]
  exact hk _ _ _ ⟨hok.a.put hlt _, hok.w.alloc _⟩ (h _)

theorem src_bytes {tx e' : TypeId} {x : Value} {l : List Int} {P : Program} {w : World} (hk : P.underlying tx = some (.slice e')) (h : SlB w x l) : Src P 1 tx x l.length (dg l) w := by
  rcases h with ⟨rfl, a, c, rfl⟩ | ⟨b, off, c, rfl, h⟩
  · cases a with
    | none => exact Src.ofNil w hk c
    | some a => exact Src.ofSlice w hk a 0 c [] rfl (fun j u hj => by simp at hj) (fun u hu => by simp at hu)
  · refine Src.ofSlice w hk _ _ c (dg l) (by simp [dg]) (fun j u hj => ?_) (dg_one l)
    rw [add_at]
    simp only [dg, List.getElem?_map, Option.map_eq_some_iff] at hj
    obtain ⟨x, hx, rfl⟩ := hj
    exact h j x hx

/-! strings -/
def bs (s : ByteArray) : List Int := s.data.toList.map fun b => (b.toNat : Int)
theorem bs_byt (s : ByteArray) : Byt (bs s) := by
  intro x hx
  obtain ⟨b, _, rfl⟩ := List.mem_map.1 hx
  have := b.toNat_lt
  omega
theorem bs_length (s : ByteArray) : (bs s).length = s.size := by
  unfold bs
  rw [List.length_map, Array.length_toList]
  rfl
theorem byteCells_bs (s : ByteArray) : byteCells s = dg (bs s) := by simp [byteCells, dg, bs, Function.comp_def]
theorem src_string {tx : TypeId} {P : Program} {w : World} (hk : P.underlying tx = some .string) (s : ByteArray) : Src P 1 tx (.string s) s.size (dg (bs s)) w := byteCells_bs s ▸ Src.ofString w hk s

theorem foldl_ba : ∀ (l : List Int) (s : ByteArray), l.foldl (fun r n => r.push (UInt8.ofNat n.toNat)) s = ⟨s.data ++ (l.map fun x => x.toNat.toUInt8).toArray⟩
  | [], s => by simp
  | x :: l, s => by
    rw [List.foldl_cons, foldl_ba l]
    simp [ByteArray.push]
theorem run_toStr {P : Program} {w : World} {x : Value} {l : List Int} (h : SlB w x l) : (Conv.bytesToString x).run P w = .ok (.string (ba l)) w := by
  rcases h with ⟨rfl, a, c, rfl⟩ | ⟨b, off, c, rfl, h⟩
  · cases a with
    | none => rfl
    | some a =>
      have := run_bytesToString (P := P) w a 0 c [] (by simp [loadCells, loadCellsFrom])
      exact this
  · have := run_bytesToString (P := P) w ⟨b, off, none⟩ l.length c l (by
      have := run_loadCells_list (P := P) w ⟨b, off, none⟩ (dg l) (fun j v hv => by
        rw [add_at]
        simp only [dg, List.getElem?_map, Option.map_eq_some_iff] at hv
        obtain ⟨x, hx, rfl⟩ := hv
        exact h j x hx)
      rw [dg_length] at this
      exact this)
    rw [this, foldl_ba]
    simp [ba, ByteArray.empty, ByteArray.emptyWithCapacity]
    rfl
/-- string(b) -/
theorem V_str {src dst e : TypeId} {x : Operand} {v : Value} {l : List Int} (ho : o.op = .convert src dst x) (hx : ev st.env x = some v) (hs : cx.P.underlying src = some (.slice e)) (he : cx.P.underlying e = some (.int .u8)) (hd : cx.P.underlying dst = some .string)
    (h : ∀ w, OkW cx st.mem st.facts w → SlB w v l) : V cx o st (.string (ba l)) :=
  ⟨nd ho (fun c h => by cases h), fun a w hok => by
    unfold execOp; rw [ho]
    have hc : (convert src dst v).run cx.P w = .ok (.string (ba l)) w := by
      have h1 := h w hok.w
      have e1 : ∃ a n c, v = .slice a n c := by
        rcases h1 with ⟨_, a, c, rfl⟩ | ⟨b, off, c, rfl, _⟩
        · exact ⟨_, _, _, rfl⟩
        · exact ⟨_, _, _, rfl⟩
      obtain ⟨a', n, c, rfl⟩ := e1
      have : (convert src dst (.slice a' n c)).run cx.P w = (Conv.bytesToString (.slice a' n c)).run cx.P w := by
        simp [convert, run_underlying hs, run_underlying hd, run_underlying he]
      rw [this]
      exact run_toStr h1
    simp only [hok.a.ev hx, Sem.run_bind, hc, Result.andThen_ok, Sem.run_pure]⟩
theorem ba_toList (l : List Int) : (ba l).toList = l.map fun x => x.toNat.toUInt8 := by simp [ba]
theorem ba_inj {a b : List Int} (hA : Byt a) (hB : Byt b) : ba a = ba b ↔ a = b := by
  constructor
  · intro h
    have h1 : (a.map fun x => x.toNat.toUInt8) = b.map fun x => x.toNat.toUInt8 := by
      have := congrArg (fun s : ByteArray => s.data.toList) h
      exact this
    have h2 := congrArg (List.map fun (u : UInt8) => (u.toNat : Int)) h1
    have key : ∀ l : List Int, Byt l → (l.map fun x => x.toNat.toUInt8).map (fun (u : UInt8) => (u.toNat : Int)) = l := by
      intro l hl
      rw [List.map_map]
      conv => rhs; rw [← List.map_id l]
      apply List.map_congr_left
      intro x hx
      have := hl x hx
      simp
      omega
    rwa [key a hA, key b hB] at h2
  · rintro rfl; rfl
theorem ba_bs (s : ByteArray) : ba (bs s) = s := by
  unfold ba bs
  rw [List.map_map]
  have : ((fun x : Int => x.toNat.toUInt8) ∘ fun b : UInt8 => (b.toNat : Int)) = id := by
    funext b
    simp
  rw [this]
  simp
theorem bs_ba {l : List Int} (h : Byt l) : bs (ba l) = l := by
  have := (ba_inj (bs_byt (ba l)) h).1 (ba_bs (ba l))
  exact this
theorem ba_append (a b : List Int) : ba a ++ ba b = ba (a ++ b) := by
  apply ByteArray.ext
  simp [ba]
end append


/-! ### Loops over functions -/
section rangeFunc
variable {cx : Cx}

theorem OkW.cast {cx cx' : Cx} {m : Mem} {fs : List Fact} {w : World} (h : OkW cx m fs w) (h0 : cx'.w0 = cx.w0) (hm : cx'.mods = cx.mods) : OkW cx' m fs w :=
  ⟨h.mem, h.dis, fun b hb => by rw [h0, hm]; exact h.may b hb, h.facts, by rw [h0, hm]; exact h.fr⟩
/-- The description, as of now. -/
theorem OkW.rebase {m : Mem} {fs : List Fact} {w : World} (h : OkW cx m fs w) (P : Program) (nt : Nat) : OkW { P := P, w0 := w, nt := nt, mods := m.map (·.1) } m fs w :=
  ⟨h.mem, h.dis, fun b hb => .inr hb, h.facts, Fr.refl _ _⟩
theorem OkW.unbase {m m' : Mem} {fs fs' fs2 : List Fact} {w w' : World} (h : OkW cx m fs2 w) {P : Program} {nt : Nat} {ro : Option Nat} (h' : OkW { P := P, w0 := w, nt := nt, mods := m.map (·.1), ro := ro } m' fs' w') (hf : ∀ f ∈ fs, f ∈ fs') : OkW cx m' fs w' :=
  ⟨h'.mem, h'.dis, fun b hb => (h'.may b hb).elim (fun h1 => .inl (Nat.le_trans h.fr.size h1)) (fun h1 => h.may b h1), fun f hf' => h'.facts f (hf f hf'), h.fr.step h'.fr (fun x hx => h.may x hx)⟩

theorem OkW.putObj {m : Mem} {fs : List Fact} {w : World} (h : OkW cx m fs w) {i b : Nat} {o o' : Obj} (hi : m[i]? = some (b, o)) : OkW cx (m.set i (b, o')) fs (w.putObj b o') := by
  have hlt := (Array.getElem?_eq_some_iff.1 (h.at hi)).1
  exact h.set hi ⟨rfl, rfl, rfl, by simp, fun k hk hm => World.putObj_heap_other (by simpa using hm)⟩ (World.putObj_heap_same hlt)

/-- These blocks are among those. -/
def Pk (m' m : Mem) : Prop := ∃ l, List.Perm l m' ∧ List.Sublist l m
theorem Pk.of_sub {m' m : Mem} (h : List.Sublist m' m) : Pk m' m := ⟨m', List.Perm.refl _, h⟩
theorem Pk.of_perm {l m' m : Mem} (hp : List.Perm l m') (h : List.Sublist l m) : Pk m' m := ⟨l, hp, h⟩
theorem OkW.perm {m m' : Mem} {fs : List Fact} {w : World} (h : OkW cx m fs w) (hp : List.Perm m m') : OkW cx m' fs w :=
  ⟨fun b o hb => h.mem b o (hp.mem_iff.2 hb), ((hp.map _).nodup_iff).1 h.dis, fun b hb => h.may b ((hp.map _).mem_iff.2 hb),
   fun f hf => ⟨(h.facts f hf).1, fun k hk => ⟨((h.facts f hf).2 k hk).1, fun hm => ((h.facts f hf).2 k hk).2 ((hp.map _).mem_iff.2 hm)⟩⟩, h.fr⟩
theorem OkW.pk {m m' : Mem} {fs fs' : List Fact} {w : World} (h : OkW cx m fs w) (hp : Pk m' m) (hf : ∀ f ∈ fs', f ∈ fs) : OkW cx m' fs' w := by
  obtain ⟨l, h1, h2⟩ := hp
  exact (h.sub h2 hf).perm h1
/-- The description in another order of its blocks. -/
theorem L_pk {ops : Array Oper} {K : St → Prop} {l : List Oper} {st : St} (m' : Mem) (hp : Pk m' st.mem) (h : L cx ops K l { st with mem := m' }) : L cx ops K l st :=
  fun Q a w ho hk => h Q a w ⟨ho.a, ho.w.pk hp (fun f hf => hf)⟩ hk
theorem J_pk {c : Code} {K : Exit → St → Prop} {st : St} (m' : Mem) (hp : Pk m' st.mem) (h : J cx c K { st with mem := m' }) : J cx c K st :=
  fun a w ho => h a w ⟨ho.a, ho.w.pk hp (fun f hf => hf)⟩

/-- Two blocks behind all others: those of a loop. -/
def tl (D l : Nat) (r : Loop) : Mem := [(D, .deferred (some [])), (l, .loop r)]

theorem tl_at (M : Mem) (D l : Nat) (r : Loop) : (M ++ tl D l r)[M.length + 1]? = some (l, .loop r) := by
  rw [List.getElem?_append_right (by omega)]
  simp [tl]
theorem tl_set (M : Mem) (D l : Nat) (r r' : Loop) : (M ++ tl D l r).set (M.length + 1) (l, .loop r') = M ++ tl D l r' := by
  rw [List.set_append_right _ _ (by omega)]
  simp [tl]

/-- What a round makes of the blocks: it goes on, or it is the last one. -/
def RoundR (cx : Cx) (fs : List Fact) {Z X : Type} (M : Nat → Z → Mem) (Ms : Z → Mem) (priv : Z → X) (js : Code) (D l : Nat) (r : Loop) (k : Nat) (z : Z) : Ending → World → Prop :=
  fun e w' => (e = .returned (.bool true) ∧ ∃ z', priv z' = priv z ∧ OkW cx (M (k + 1) z' ++ tl D l r) fs w') ∨
    (e = .returned (.bool false) ∧ ∃ z', OkW cx (Ms z' ++ tl D l { r with state := .done, pending := some js }) fs w')

/-- Every round is as it is wanted. -/
def RoundsOk (cx : Cx) (fs : List Fact) {Z X : Type} (M : Nat → Z → Mem) (Ms : Z → Mem) (priv : Z → X) (N : Nat) (vals : Nat → List Value) (js : Code) (D l : Nat) (r : Loop) : Prop :=
  ∀ k z w, k < N → OkW cx (M k z ++ tl D l r) fs w → YieldAt (fen none) 0 cx.P l (vals k).toArray w (RoundR cx fs M Ms priv js D l r k z)

/-- What the function that is gone through ends with. -/
def IterR (cx : Cx) (fs : List Fact) {Z : Type} (M : Nat → Z → Mem) (Ms : Z → Mem) (N : Nat) (js : Code) (D l : Nat) (r : Loop) : Ending → World → Prop :=
  fun e w' => (∃ v, e = .returned v) ∧ ((∃ z, OkW cx (M N z ++ tl D l r) fs w') ∨ (∃ z, OkW cx (Ms z ++ tl D l { r with state := .done, pending := some js }) fs w'))

def zipE : List Nat → List Value → Env → Env
  | p :: ps, v :: vs, e => zipE ps vs ((p, v) :: e)
  | _, _, e => e

theorem OkA.zipL {env : Env} {ds : List Deferred} : ∀ {ps : List Nat} {vs : List Value} {env : Env} {tmps : Array Value}, OkA cx env [] { tmps := tmps, defers := [] } → (∀ p ∈ ps, Nat.blt p cx.nt = true) →
    OkA cx (zipE ps vs env) [] { tmps := (ps.zip vs).foldl (fun t (p, v) => t.setIfInBounds p v) tmps, defers := [] }
  | [], _, _, _, h, _ => by simpa [zipE] using h
  | p :: ps, [], _, _, h, _ => by simpa [zipE] using h
  | p :: ps, v :: vs, env, tmps, h, hp => by
    simp only [zipE, List.zip_cons_cons, List.foldl_cons]
    exact OkA.zipL (env := env) (ds := ds) (ps := ps) (vs := vs) (h.put (hp p (by simp)) v) (fun q hq => hp q (by simp [hq]))

theorem J_rangeFunc {Z X : Type} {K : Exit → St → Prop} {st : St} {g : Operand} {ps : Array Tmp} {assign body : Code} {gf : FuncId} {lb : Array Value}
    (M : Nat → Z → Mem) (Ms : Z → Mem) (priv : Z → X) (js : Code) (z0 : Z) (N : Nat) (vals : Nat → List Value)
    (hro : cx.ro = none) (hds : st.ds = []) (hg : ev st.env g = some (.func (.func gf) #[] lb)) (hf : Txt cx.P gf) (hps : ∀ k, (vals k).length = ps.size) (hpl : ∀ p ∈ ps.toList, Nat.blt p cx.nt = true)
    (h0 : M 0 z0 = st.mem)
    (hiter : ∀ D l r w, RoundsOk cx st.facts M Ms priv N vals js D l r → OkW cx (M 0 z0 ++ tl D l r) st.facts w → Calls cx.P gf (#[.func (.yield l) #[] #[]] ++ lb) w (IterR cx st.facts M Ms N js D l r))
    (hassign : ∀ D l r k z, k < N → J { cx with ro := some l } assign (Exit.thenS (fun s1 => s1.ds = [] ∧ s1.facts = st.facts ∧ s1.mem = M k z ++ tl D l r ∧
        J { cx with ro := some l } body (fun e s => s.facts = st.facts ∧ match e with
          | .normal => ∃ z', priv z' = priv z ∧ Pk (M (k + 1) z' ++ tl D l { r with state := .busy }) s.mem
          | .ret => js = .ret ∧ ∃ z', Pk (Ms z' ++ tl D l { r with state := .busy }) s.mem
          | .exit id => js = .exit id ∧ ∃ z', Pk (Ms z' ++ tl D l { r with state := .busy }) s.mem
          | _ => False) { s1 with mem := M k z ++ tl D l { r with state := .busy } }) (fun _ _ => False))
      { env := zipE ps.toList (vals k) st.env, mem := M k z ++ tl D l r, facts := st.facts, ds := [] })
    (hdone : ∀ D z, K .normal { st with mem := M N z ++ [(D, .deferred (some []))], ds := [{ target := .collected D, args := #[] }] })
    (hstop : ∀ D z, J cx js K { st with mem := Ms z ++ [(D, .deferred (some []))], ds := [{ target := .collected D, args := #[] }] }) :
    J cx (.rangeFunc g ps assign body) K st := by
  intro a w ho
  refine wpIn_rangeFunc fun fn hfn => ?_
  have hro' : (fen cx.ro).round = none := by rw [hro]; rfl
  have hfenro : fen cx.ro = fen none := by rw [hro]
  rw [hro']
  obtain ⟨r, hr⟩ : ∃ r : Loop, r = { state := .ready, pending := none, fn, tmps := a.tmps, params := ps, assign, body, defers := w.heap.size } := ⟨_, rfl⟩
  have hrs : r.state = .ready := by rw [hr]
  have hrp : r.pending = none := by rw [hr]
  have hw1 : OkW cx (M 0 z0 ++ tl w.heap.size (w.heap.size + 1) r) st.facts ((w.alloc (.deferred (some []))).alloc (.loop r)) := by
    have h1 := (ho.w.alloc (.deferred (some []))).alloc (.loop r)
    rw [World.size_alloc] at h1
    rw [h0]
    simpa [tl] using h1
  refine ⟨w.heap.size + 1, [{ target := .collected w.heap.size, args := #[] }], (w.alloc (.deferred (some []))).alloc (.loop r), { target := .fn (.func gf) lb, args := #[.func (.yield (w.heap.size + 1)) #[] #[]] }, (w.alloc (.deferred (some []))).alloc (.loop r), gf,
    #[.func (.yield (w.heap.size + 1)) #[] #[]] ++ lb, (w.alloc (.deferred (some []))).alloc (.loop r), ?_, ?_, fun _ _ => trivial, ?_, fun h => (by cases h), ?_⟩
  · rw [hr]; exact run_enterLoop_outer _ _ _ _ _
  · simp only [resolve, ho.a.ev hg]
    simp [go_sem, Deferred.ofValue, Act.eval]
  · simp only [invoke]
    exact hf _ _
  · refine callsIn_fen ((hiter _ _ r _ ?_ hw1).mono ?_)
    · -- a round
      intro k z W hk hW
      have hl := hW.at (tl_at _ _ _ _)
      have hy := run_yield (P := cx.P) (args := (vals k).toArray) hl (by rw [hr]; simpa using hps k)
      refine ⟨_, _, _, _, hy, ?_⟩
      have ha0 : OkA { cx with ro := some (w.heap.size + 1) } (zipE ps.toList (vals k) st.env) [] { tmps := (r.params.zip (vals k).toArray).foldl (fun t (p, v) => t.setIfInBounds p v) r.tmps, defers := [] } := by
        have := OkA.zipL (cx := { cx with ro := some (w.heap.size + 1) }) (ds := []) (env := st.env) (ps := ps.toList) (vs := vals k) (tmps := a.tmps) ⟨ho.a.env, ho.a.size, rfl⟩ hpl
        rw [hr]
        have e : (ps.zip (vals k).toArray).foldl (fun t (p, v) => t.setIfInBounds p v) a.tmps = (ps.toList.zip (vals k)).foldl (fun t (p, v) => t.setIfInBounds p v) a.tmps := by
          rw [← Array.foldl_toList, Array.toList_zip]
        show OkA _ _ _ { tmps := (ps.zip (vals k).toArray).foldl (fun t (p, v) => t.setIfInBounds p v) a.tmps, defers := [] }
        rw [e]
        exact this
      refine roundIn_of_wpIn (F := fen none) (n := 0) hfn ?_
      have hJ := hassign w.heap.size (w.heap.size + 1) r k z hk _ W ⟨ha0, hW.cast rfl rfl⟩
      have e1 : (fen none).inRound (w.heap.size + 1) = fen (some (w.heap.size + 1)) := rfl
      rw [hr] at hJ ⊢
      rw [← hr] at hJ ⊢
      rw [e1]
      rw [show r.assign = assign by rw [hr], show r.body = body by rw [hr]]
      refine Go.wpIn_mono hJ ?_
      intro e a1 W1 ⟨s1, hs1, hK1⟩
      cases e with
      | normal =>
        obtain ⟨hd1, hf1, hm1, hb1⟩ := hK1
        have hw1' := hs1.w
        rw [hm1, hf1] at hw1'
        have hl1 := hw1'.at (tl_at _ _ _ _)
        refine ⟨_, run_beginRound hl1 hrs, ?_⟩
        have hw2 := hw1'.putObj (o' := .loop { r with state := .busy }) (tl_at _ _ _ _)
        rw [tl_set] at hw2
        refine Go.wpIn_mono (hb1 a1 _ ⟨hs1.a, by rw [hf1]; exact hw2⟩) ?_
        intro e2 a2 W2 ⟨s2, hs2, hf2, hK2⟩
        have fin : ∀ (jump : Option Code) (Mx : Mem), Pk (Mx ++ tl w.heap.size (w.heap.size + 1) { r with state := .busy }) s2.mem →
            ∃ w', (Instr.endRound (w.heap.size + 1) jump).run cx.P W2 = .ok (.bool jump.isNone) w' ∧ OkW cx (Mx ++ tl w.heap.size (w.heap.size + 1) { r with state := if jump.isNone then .ready else .done, pending := jump }) st.facts w' := by
          intro jump Mx hsub
          have h3 : OkW cx (Mx ++ tl w.heap.size (w.heap.size + 1) { r with state := .busy }) st.facts W2 := (hs2.w.pk hsub (fun f hf => by rw [hf2]; exact hf)).cast rfl rfl
          have hl3 := h3.at (tl_at _ _ _ _)
          refine ⟨_, run_endRound jump hl3, ?_⟩
          have := h3.putObj (o' := .loop { r with state := if jump.isNone then .ready else .done, pending := jump }) (tl_at _ _ _ _)
          rwa [tl_set] at this
        cases e2 with
        | normal =>
          obtain ⟨z', hz', hsub⟩ := hK2
          obtain ⟨w', h4, h5⟩ := fin none _ hsub
          refine ⟨_, w', h4, .inl ⟨rfl, z', hz', ?_⟩⟩
          have : ({ r with state := if (none : Option Code).isNone then .ready else .done, pending := none } : Loop) = r := by
            cases r; simp_all
          rwa [this] at h5
        | ret =>
          obtain ⟨rfl, z', hsub⟩ := hK2
          obtain ⟨w', h4, h5⟩ := fin (some .ret) _ hsub
          exact ⟨_, w', h4, .inr ⟨rfl, z', h5⟩⟩
        | exit id =>
          obtain ⟨rfl, z', hsub⟩ := hK2
          obtain ⟨w', h4, h5⟩ := fin (some (.exit id)) _ hsub
          exact ⟨_, w', h4, .inr ⟨rfl, z', h5⟩⟩
        | goto t => exact hK2.elim
        | panic c => exact hK2.elim
        | outgrown => exact hK2.elim
      | exit id => exact hK1.elim
      | goto t => exact hK1.elim
      | ret => exact hK1.elim
      | panic c => exact hK1.elim
      | outgrown => exact hK1.elim
    · -- behind the function
      rintro e W2 ⟨⟨v, rfl⟩, h2⟩
      have ha2 : OkA cx st.env [{ target := .collected w.heap.size, args := #[] }] { a with defers := [{ target := .collected w.heap.size, args := #[] }] ++ a.defers } :=
        ⟨ho.a.env, ho.a.size, by show _ ++ a.defers = _; rw [ho.a.ds, hds]; rfl⟩
      have drop : ∀ (Mx : Mem) (r' : Loop), List.Sublist (Mx ++ [(w.heap.size, .deferred (some []))]) (Mx ++ tl w.heap.size (w.heap.size + 1) r') := fun Mx r' =>
        List.Sublist.append (List.Sublist.refl _) (List.Sublist.cons_cons _ (List.nil_sublist _))
      rcases h2 with ⟨z, hz⟩ | ⟨z, hz⟩
      · have hl2 := hz.at (tl_at _ _ _ _)
        refine ⟨_, _, run_endLoop hl2 (by rw [hrs]; simp), ?_⟩
        have h3 := hz.putObj (o' := .loop { r with state := .exhausted }) (tl_at _ _ _ _)
        rw [tl_set] at h3
        rw [hrp] at h3 ⊢
        exact ⟨{ st with mem := M N z ++ [(w.heap.size, .deferred (some []))], ds := [{ target := .collected w.heap.size, args := #[] }] }, ⟨ha2, h3.sub (drop _ _) (fun f hf => hf)⟩, hdone _ z⟩
      · have hl2 := hz.at (tl_at _ _ _ _)
        refine ⟨_, _, run_endLoop hl2 (by simp), ?_⟩
        have h3 := hz.putObj (o' := .loop { { r with state := .done, pending := some js } with state := .exhausted }) (tl_at _ _ _ _)
        rw [tl_set] at h3
        exact hstop _ z _ _ ⟨ha2, h3.sub (drop _ _) (fun f hf => hf)⟩

/-- A call of the function that each element is handed to. -/
theorem L_yield {o : Oper} {st : St} {ops : Array Oper} {K : St → Prop} {rest : List Oper} {x : Operand} {args : Array Operand} {at_ : Array TypeId} {l d : Nat} {vs : List Value} (hro : cx.ro = none) (hg : o.guard = none) (ho : o.op = .call { callee := .value x, args := args, argTypes := at_ })
    (hd : o.dst = some d) (hlt : Nat.blt d cx.nt = true) (hx : ev st.env x = some (.func (.yield l) #[] #[])) (hv : evs st.env args.toList = some vs)
    (hy : ∀ w, OkW cx st.mem st.facts w → YieldAt (fen none) 0 cx.P l vs.toArray w fun e w' => ∃ v m, e = .returned v ∧ OkW cx m st.facts w' ∧ L cx ops K rest { st with env := (d, v) :: st.env, mem := m }) : L cx ops K (o :: rest) st := by
  refine L_cons hg fun Q next a w hok hk => ?_
  refine ⟨fun _ _ => trivial, ?_⟩
  rw [Oper.semAt_eq _ _ _ (nd ho (fun c h => by cases h))]
  obtain ⟨fn, tmps, assign, body, hrun, hround⟩ := hy w hok.w
  have hr : (execOp a.eval o).run cx.P w = .ok (.round l fn tmps assign body) w := by
    unfold execOp; rw [ho]
    have e1 : args.map a.eval = vs.toArray := Array.ext' (by rw [Array.toList_map, hok.a.evs hv])
    simp only [resolve, hok.a.ev hx, e1, Deferred.ofValue, Sem.run_bind, Sem.run_pure, Result.andThen_ok, invoke, Array.empty_append, hrun]
  rw [hr]
  refine ⟨fun h => (by cases h), ?_⟩
  rw [hro]
  refine hround.mono ?_
  rintro e w' ⟨v, m, rfl, hw', hL⟩
  rw [hd]
  exact hk { st with env := (d, v) :: st.env, mem := m } _ _ ⟨hok.a.put hlt v, hw'⟩ hL

theorem YieldAt.mono {F : Fence} {m : Nat} {P : Program} {l : Nat} {args : Array Value} {W : World} {R R' : Ending → World → Prop} (h : YieldAt F m P l args W R) (hr : ∀ e w', R e w' → R' e w') : YieldAt F m P l args W R' := by
  obtain ⟨fn, tmps, assign, body, h1, h2⟩ := h
  exact ⟨fn, tmps, assign, body, h1, h2.mono hr⟩
/-- A function is entered while another one's description is kept. -/
theorem calls_in {P : Program} {f : FuncId} {fn : Func} {c : Code} {args : List Value} {w w0 : World} {R : Ending → World → Prop} (mods : List Nat) (mem : Mem) (facts : List Fact) (hf : P.funcs[f]? = some fn) (hb : fn.body = some c)
    (hn : Nat.ble args.length fn.ntmps = true) (hw : OkW { P := P, w0 := w0, nt := fn.ntmps, mods := mods } mem facts w)
    (h : J { P := P, w0 := w0, nt := fn.ntmps, mods := mods } c (Kret { P := P, w0 := w0, nt := fn.ntmps, mods := mods } fn R) { env := envOf 0 args, mem := mem, facts := facts }) : Calls P f args.toArray w R := by
  refine (callsIn_wide (n := 0)).1 (callsIn_of_wp hf hb trivial ?_)
  have hn' : args.length ≤ fn.ntmps := by simpa [Nat.ble_eq] using hn
  have := h { tmps := args.toArray ++ Array.replicate (fn.ntmps - args.toArray.size) undef, defers := [] } w ⟨⟨fun k v hk => ?_, by simp; omega, rfl⟩, hw⟩
  · refine Go.wpIn_mono this ?_
    rintro e a w ⟨s, h1, h2⟩
    cases e with
    | normal => exact h2 a w h1
    | ret => exact h2 a w h1
    | exit id => exact h2.elim
    | goto l => exact h2.elim
    | panic c => exact h2.elim
    | outgrown => exact h2.elim
  · obtain ⟨_, h2⟩ := get_envOf _ _ _ _ hk
    simp only [Nat.sub_zero] at h2
    have hl := (List.getElem?_eq_some_iff.1 h2).1
    have h3 := (List.getElem?_eq_some_iff.1 h2).2
    simp [Array.getElem?_append, hl, h3]

/-- A function that may bear a mark. -/
def KretM (cx : Cx) (fn : Func) (R : Ending → World → Prop) : Exit → St → Prop
  | .normal, st => ∀ a w, Ok cx st a w → bodyPostM (fen none) 0 cx.P fn R .ret a w
  | .ret, st => ∀ a w, Ok cx st a w → bodyPostM (fen none) 0 cx.P fn R .ret a w
  | _, _ => False

theorem calls_of_m {P : Program} {f : FuncId} {fn : Func} {c : Code} {args : List Value} {w : World} {R : Ending → World → Prop} (mods : List Nat) (mem : Mem) (facts : List Fact) (hf : P.funcs[f]? = some fn) (hb : fn.body = some c)
    (hn : Nat.ble args.length fn.ntmps = true) (hw : OkW { P := P, w0 := w, nt := fn.ntmps, mods := mods } mem facts w)
    (h : J { P := P, w0 := w, nt := fn.ntmps, mods := mods } c (KretM { P := P, w0 := w, nt := fn.ntmps, mods := mods } fn R) { env := envOf 0 args, mem := mem, facts := facts }) : Calls P f args.toArray w R := by
  refine (callsIn_wide (n := 0)).1 (callsIn_of_wp_marks hf hb trivial ?_)
  have hn' : args.length ≤ fn.ntmps := by simpa [Nat.ble_eq] using hn
  have := h { tmps := args.toArray ++ Array.replicate (fn.ntmps - args.toArray.size) undef, defers := [] } w ⟨⟨fun k v hk => ?_, by simp; omega, rfl⟩, hw⟩
  · refine Go.wpIn_mono this ?_
    rintro e a w ⟨s, h1, h2⟩
    cases e with
    | normal => exact h2 a w h1
    | ret => exact h2 a w h1
    | exit id => exact h2.elim
    | goto l => exact h2.elim
    | panic c => exact h2.elim
    | outgrown => exact h2.elim
  · obtain ⟨_, h2⟩ := get_envOf _ _ _ _ hk
    simp only [Nat.sub_zero] at h2
    have hl := (List.getElem?_eq_some_iff.1 h2).1
    have h3 := (List.getElem?_eq_some_iff.1 h2).2
    simp [Array.getElem?_append, hl, h3]

theorem KretM_plain {st : St} {fn : Func} {R : Ending → World → Prop} (hd : st.ds = []) (h : Kret cx fn R .ret st) : KretM cx fn R .ret st := by
  intro a w ho
  obtain ⟨_, h2⟩ := h a w ho
  have : a.defers = [] := ho.a.ds.trans hd
  show LeavesInM _ _ _ _ _ _ _ _ _
  rw [this]
  exact h2
/-- The mark is come to. -/
theorem KretM_mark {st : St} {fn : Func} {R : Ending → World → Prop} {D : Nat} (i : Nat) (hd : st.ds = [{ target := .collected D, args := #[] }]) (hi : st.mem[i]? = some (D, .deferred (some [])))
    (h : Kret cx fn R .ret { st with ds := [], mem := st.mem.set i (D, .deferred none) }) : KretM cx fn R .ret st := by
  intro a w ho
  have : a.defers = [{ target := .collected D, args := #[] }] := ho.a.ds.trans hd
  show LeavesInM _ _ _ _ _ _ _ _ _
  rw [this]
  have hw' := ho.w.putObj (o' := .deferred none) hi
  obtain ⟨_, h2⟩ := h { a with defers := [] } _ ⟨⟨ho.a.env, ho.a.size, rfl⟩, hw'⟩
  exact ⟨by simp, .inl ⟨D, _, rfl, run_takeDeferred (ho.w.at hi), h2⟩⟩
theorem KretM_normal {st : St} {fn : Func} {R : Ending → World → Prop} (h : KretM cx fn R .ret st) : KretM cx fn R .normal st := h
end rangeFunc

/-! ### Lengths, parts of slices, strings, copies -/
section more
variable {cx : Cx} {o : Oper} {st : St} {ops : Array Oper} {K : St → Prop} {rest : List Oper}

theorem V_builtin {b : Builtin} {args : Array Operand} {at_ : Array TypeId} {vs : List Value} {v : Value} (ho : o.op = .call { callee := .builtin b, args := args, argTypes := at_ }) (hv : evs st.env args.toList = some vs)
    (hr : ∀ cs w, OkW cx st.mem st.facts w → (builtin b at_ o.type cs vs.toArray).run cx.P w = .ok (.value v) w) : V cx o st v :=
  ⟨nd ho (fun c h => by cases h), fun a w h => by
    obtain ⟨cs, e⟩ := run_builtin h.a ho hv w
    rw [e]
    exact hr cs w h.w⟩
theorem V_len {t e : TypeId} {x : Operand} {a : Option Addr} {n c : Nat} {r : Int} (ho : o.op = .call { callee := .builtin .len, args := #[x], argTypes := #[t] }) (hx : ev st.env x = some (.slice a n c)) (ht : cx.P.underlying t = some (.slice e)) (hr : (n : Int) = r) : V cx o st (.int .i64 r) :=
  V_builtin ho (vs := [.slice a n c]) (by simp [evs, hx]) fun cs w _ => by
    subst hr
    simp [builtin, Builtin.len_, run_underlying ht, goInt]
theorem V_lenS {t : TypeId} {x : Operand} {s : ByteArray} {r : Int} (ho : o.op = .call { callee := .builtin .len, args := #[x], argTypes := #[t] }) (hx : ev st.env x = some (.string s)) (ht : cx.P.underlying t = some .string) (hr : (s.size : Int) = r) : V cx o st (.int .i64 r) :=
  V_builtin ho (vs := [.string s]) (by simp [evs, hx]) fun cs w _ => by
    subst hr
    simp [builtin, Builtin.len_, run_underlying ht, goInt]
theorem V_lenA {t e : TypeId} {n : Nat} {x : Operand} {v : Value} (ho : o.op = .call { callee := .builtin .len, args := #[x], argTypes := #[t] }) (hx : ev st.env x = some v) (ht : cx.P.underlying t = some (.array n e)) : V cx o st (.int .i64 n) :=
  V_builtin ho (vs := [v]) (by simp [evs, hx]) fun cs w _ => by
    simp [builtin, Builtin.len_, run_underlying ht, goInt]

/-- A bound of a part. -/
def Bd (env : Env) (o : Option Operand) (dflt v : Nat) : Prop :=
  match o with
  | none => v = dflt
  | some x => ∃ k, ev env x = some (.int k (v : Int))
theorem Bd.at {env : Env} {x : Operand} {k : IntKind} {i : Int} {dflt v : Nat} (h : ev env x = some (.int k i)) (e : i = (v : Int)) : Bd env (some x) dflt v := ⟨k, e ▸ h⟩

theorem V_sliceS {t e : TypeId} {x : Operand} {lo hi mx : Option Operand} {a : Option Addr} {n c sz l h m : Nat} {v : Value} (ho : o.op = .slice t x lo hi mx) (hx : ev st.env x = some (.slice a n c)) (ht : cx.P.underlying t = some (.slice e)) (hz : (cx.P.info? e).map (·.size) = some sz)
    (hl : Bd st.env lo 0 l) (hh : Bd st.env hi n h) (hm : Bd st.env mx c m) (hmx : (mx.isSome && hi.isNone) = false) (h1 : l ≤ h) (h2 : h ≤ m) (h3 : m ≤ c) (hv : Value.slice (if m = l then a else a.map (·.add (l * sz))) (h - l) (m - l) = v) : V cx o st v :=
  ⟨nd ho (fun c h => by cases h), fun a' w hok => by
    subst hv
    unfold execOp; rw [ho]
    have hb : (Instr.sliceBounds true n c (lo.map a'.eval) (hi.map a'.eval) (mx.map a'.eval)).run cx.P w = .ok (l, h, m) w := by
      unfold Bd at hl hh hm
      cases mx with
      | none =>
        simp only at hm
        subst hm
        cases hi with
        | none =>
          simp only at hh
          subst hh
          cases lo with
          | none => simp only at hl; subst hl; simp [Instr.sliceBounds]
          | some xl => obtain ⟨k, hk⟩ := hl; simp [Instr.sliceBounds, hok.a.ev hk, run_sliceBound (P := cx.P) w k l h .sliceB (by omega) (by omega)]
        | some xh =>
          obtain ⟨kh, hkh⟩ := hh
          have e1 := run_sliceBound (P := cx.P) w kh h m .sliceAcap (by omega) (by omega)
          cases lo with
          | none => simp only at hl; subst hl; simp [Instr.sliceBounds, hok.a.ev hkh, e1]
          | some xl => obtain ⟨k, hk⟩ := hl; simp [Instr.sliceBounds, hok.a.ev hkh, e1, hok.a.ev hk, run_sliceBound (P := cx.P) w k l h .sliceB (by omega) (by omega)]
      | some xm =>
        obtain ⟨km, hkm⟩ := hm
        have e0 := run_sliceBound (P := cx.P) w km m c .slice3Acap (by omega) (by omega)
        cases hi with
        | none => simp at hmx
        | some xh =>
          obtain ⟨kh, hkh⟩ := hh
          have e1 := run_sliceBound (P := cx.P) w kh h m .slice3B (by omega) (by omega)
          cases lo with
          | none => simp only at hl; subst hl; simp [Instr.sliceBounds, hok.a.ev hkm, e0, hok.a.ev hkh, e1]
          | some xl => obtain ⟨k, hk⟩ := hl; simp [Instr.sliceBounds, hok.a.ev hkm, e0, hok.a.ev hkh, e1, hok.a.ev hk, run_sliceBound (P := cx.P) w k l h .slice3C (by omega) (by omega)]
    simp only [hok.a.ev hx, Instr.sliceAt, Instr.slice, Sem.run_bind, run_underlying ht, Result.andThen_ok, hb, run_sizeOf hz, Sem.run_pure]⟩

theorem V_sliceStr {t : TypeId} {x : Operand} {lo hi : Option Operand} {s : ByteArray} {l h : Nat} {v : Value} (ho : o.op = .slice t x lo hi none) (hx : ev st.env x = some (.string s)) (ht : cx.P.underlying t = some .string)
    (hl : Bd st.env lo 0 l) (hh : Bd st.env hi s.size h) (h1 : l ≤ h) (h2 : h ≤ s.size) (hv : Value.string (s.extract l h) = v) : V cx o st v :=
  ⟨nd ho (fun c h => by cases h), fun a' w hok => by
    subst hv
    unfold execOp; rw [ho]
    have hb : (Instr.sliceBounds false s.size s.size (lo.map a'.eval) (hi.map a'.eval) none).run cx.P w = .ok (l, h, s.size) w := by
      unfold Bd at hl hh
      cases hi with
      | none =>
        simp only at hh
        subst hh
        cases lo with
        | none => simp only at hl; subst hl; simp [Instr.sliceBounds]
        | some xl => obtain ⟨k, hk⟩ := hl; simp [Instr.sliceBounds, hok.a.ev hk, run_sliceBound (P := cx.P) w k l s.size .sliceB (by omega) (by omega)]
      | some xh =>
        obtain ⟨kh, hkh⟩ := hh
        have e1 := run_sliceBound (P := cx.P) w kh h s.size .sliceAlen (by omega) (by omega)
        cases lo with
        | none => simp only at hl; subst hl; simp [Instr.sliceBounds, hok.a.ev hkh, e1]
        | some xl => obtain ⟨k, hk⟩ := hl; simp [Instr.sliceBounds, hok.a.ev hkh, e1, hok.a.ev hk, run_sliceBound (P := cx.P) w k l h .sliceB (by omega) (by omega)]
    simp only [hok.a.ev hx, Option.map_none, Instr.sliceAt, Instr.slice, Sem.run_bind, run_underlying ht, Result.andThen_ok, hb, Option.isSome_none, Bool.false_eq_true, if_false, Sem.run_pure]⟩

theorem str_eq (a b : ByteArray) : (a.toList == b.toList) = decide (a = b) := by
  rw [Lib.toList_data, Lib.toList_data]
  by_cases h : a = b
  · subst h; simp
  · have : a.data ≠ b.data := fun e => h (ByteArray.ext e)
    simp [h, this]
theorem V_eqS {t yt : TypeId} {x y : Operand} {a b : ByteArray} {r : Bool} (ho : o.op = .binOp .eql t x y yt) (hx : ev st.env x = some (.string a)) (hy : ev st.env y = some (.string b)) (hr : decide (a = b) = r) : V cx o st (.bool r) :=
  ⟨nd ho (fun c h => by cases h), fun a' w h => by
    subst hr
    unfold execOp; rw [ho]
    have hg : (eqGuard .eql t x y (.string a) (.string b)).run cx.P w = .ok () w := rfl
    simp only [h.a.ev hx, h.a.ev hy, Sem.run_bind, hg, Result.andThen_ok, binOp_string_eql, str_eq, Sem.run_pure]⟩
theorem V_neS {t yt : TypeId} {x y : Operand} {a b : ByteArray} {r : Bool} (ho : o.op = .binOp .neq t x y yt) (hx : ev st.env x = some (.string a)) (hy : ev st.env y = some (.string b)) (hr : decide (a ≠ b) = r) : V cx o st (.bool r) :=
  ⟨nd ho (fun c h => by cases h), fun a' w h => by
    subst hr
    unfold execOp; rw [ho]
    have hg : (eqGuard .neq t x y (.string a) (.string b)).run cx.P w = .ok () w := rfl
    simp only [h.a.ev hx, h.a.ev hy, Sem.run_bind, hg, Result.andThen_ok, binOp_string_neq, str_eq, Sem.run_pure]
    simp⟩
theorem V_addS {t yt : TypeId} {x y : Operand} {a b : ByteArray} {r : ByteArray} (ho : o.op = .binOp .add t x y yt) (hx : ev st.env x = some (.string a)) (hy : ev st.env y = some (.string b)) (hs : a.size + b.size ≤ 9223372036854775807) (hr : a ++ b = r) : V cx o st (.string r) :=
  ⟨nd ho (fun c h => by cases h), fun a' w h => by
    subst hr
    unfold execOp; rw [ho]
    have hg : (eqGuard .add t x y (.string a) (.string b)).run cx.P w = .ok () w := rfl
    simp only [h.a.ev hx, h.a.ev hy, Sem.run_bind, hg, Result.andThen_ok, binOp_string_add, run_string_add_sum w a b hs, Sem.run_pure]⟩

/-- A block that reads as these bytes, and more behind them. -/
theorem SlB.of_own {m : Mem} {fs : List Fact} {i b n : Nat} {l : List Int} {r : List Value} {T : TypeId} {fz : Nat × Nat} {w : World} (h : OkW cx m fs w) (hi : m[i]? = some (b, .cells (dg l ++ r).toArray T fz)) (hl : l.length = n) (c : Nat) : SlB w (.slice (some ⟨b, 0, none⟩) n c) l :=
  hl ▸ .inr ⟨b, 0, c, rfl, fun j x hj => cell_of (h.at hi) (by
    have hlt := (List.getElem?_eq_some_iff.1 hj).1
    have e := (List.getElem?_eq_some_iff.1 hj).2
    have hd : j < (dg l).length := by simpa [dg_length] using hlt
    rw [Nat.zero_add, List.getElem?_toArray, List.getElem?_append_left hd]
    simp [dg, hlt, e])⟩
theorem SlB.nil {w : World} (a : Option Addr) (c : Nat) : SlB w (.slice a 0 c) [] := .inl ⟨rfl, a, c, rfl⟩
theorem SlB.size {w : World} {a : Option Addr} {n c : Nat} {l : List Int} (h : SlB w (.slice a n c) l) : l.length = n := by
  rcases h with ⟨rfl, a', c', e⟩ | ⟨b, off, c', e, _⟩
  · simp only [Value.slice.injEq] at e; simp [e.2.1]
  · simp only [Value.slice.injEq] at e; exact e.2.1.symm
/-- A part of the slice. -/
theorem SlB.part {w : World} {a : Option Addr} {n c : Nat} {L : List Int} (h : SlB w (.slice a n c) L) {l hh m : Nat} (h1 : l ≤ hh) (h2 : hh ≤ n) (h3 : hh ≤ m) : SlB w (.slice (if m = l then a else a.map (·.add (l * 1))) (hh - l) (m - l)) ((L.drop l).take (hh - l)) := by
  have hs := h.size
  by_cases he : hh = l
  · subst he
    rw [Nat.sub_self, List.take_zero]
    exact .inl ⟨rfl, _, _, rfl⟩
  · have hml : m ≠ l := by omega
    rw [if_neg hml, Nat.mul_one]
    rcases h with ⟨rfl, a', c', e⟩ | ⟨b, off, c', e, hc⟩
    · simp at hs; omega
    · simp only [Value.slice.injEq] at e
      obtain ⟨rfl, rfl, rfl⟩ := e
      refine .inr ⟨b, off + l, m - l, ?_, fun j x hj => ?_⟩
      · simp only [Option.map_some, add_at, List.length_take, List.length_drop]
        congr 1
        omega
      · rw [List.getElem?_take] at hj
        split at hj
        · rw [List.getElem?_drop] at hj
          rw [Nat.add_assoc]
          exact hc _ _ hj
        · cases hj
theorem SlB.take {w : World} {a : Option Addr} {n c : Nat} {L : List Int} (h : SlB w (.slice a n c) L) {k : Nat} (hk : k ≤ n) (m : Nat) : SlB w (.slice a k m) (L.take k) := by
  have hs := h.size
  rcases h with ⟨rfl, a', c', e⟩ | ⟨b, off, c', e, hc⟩
  · have : k = 0 := by simp at hs; omega
    subst this
    exact .inl ⟨rfl, _, _, rfl⟩
  · simp only [Value.slice.injEq] at e
    obtain ⟨rfl, rfl, rfl⟩ := e
    refine .inr ⟨b, off, m, by rw [List.length_take, Nat.min_eq_left hk], fun j x hj => ?_⟩
    rw [List.getElem?_take] at hj
    split at hj
    · exact hc _ _ hj
    · cases hj

/-- A byte of a slice. -/
theorem SlB.cell {w : World} {a : Option Addr} {n c : Nat} {L : List Int} (h : SlB w (.slice a n c) L) {j : Nat} {x : Int} (hj : L[j]? = some x) : ∃ b off, a = some ⟨b, off, none⟩ ∧ w.cell? ⟨b, off + j, none⟩ = some (.int .u8 x) := by
  rcases h with ⟨rfl, a', c', e⟩ | ⟨b, off, c', e, hc⟩
  · simp at hj
  · simp only [Value.slice.injEq] at e
    obtain ⟨rfl, rfl, rfl⟩ := e
    exact ⟨b, off, rfl, hc j x hj⟩

/-- []byte(s) -/
theorem L_toBytes {src dst e : TypeId} {x : Operand} {s : ByteArray} {d : Nat} (hg : o.guard = none) (ho : o.op = .convert src dst x) (hd : o.dst = some d) (hlt : Nat.blt d cx.nt = true) (hx : ev st.env x = some (.string s)) (hs : cx.P.underlying src = some .string) (hdt : cx.P.underlying dst = some (.slice e)) (he : cx.P.underlying e = some (.int .u8))
    (h : ∀ (g c : Nat) (r : List Value) (fz : Nat × Nat), L cx ops K rest { st with env := (d, .slice (some ⟨g, 0, none⟩) s.size c) :: st.env, mem := st.mem ++ [(g, .cells (dg (bs s) ++ r).toArray e fz)] }) : L cx ops K (o :: rest) st := by
  refine L_cons hg fun Q next a w hok hk => ?_
  have hr := run_bytes_of_string (P := cx.P) w src dst e s hs hdt he
  have hval : (execOp a.eval o).run cx.P w = .ok (.value (.slice (some ⟨w.heap.size, 0, none⟩) s.size (grownCap w s.size 0 e))) (w.drew.alloc (.cells (bytesRow s (grownCap w s.size 0 e)) e ((bytesRow s (grownCap w s.size 0 e)).size, (bytesRow s (grownCap w s.size 0 e)).size + 1))) := by
    unfold execOp; rw [ho]
    simp only [hok.a.ev hx, Sem.run_bind, hr, Result.andThen_ok, Sem.run_pure]
  refine wpIn_value (nd ho (fun c h => by cases h)) hval ?_
  rw [hd]
  have hal : Fr [] w (w.drew.alloc (.cells (bytesRow s (grownCap w s.size 0 e)) e ((bytesRow s (grownCap w s.size 0 e)).size, (bytesRow s (grownCap w s.size 0 e)).size + 1))) := (Fr.drew w).trans (Fr.alloc w.drew _)
  have hrow : bytesRow s (grownCap w s.size 0 e) = (dg (bs s) ++ List.replicate (grownCap w s.size 0 e - s.size) (Value.int .u8 0)).toArray := by
    apply Array.ext'
    simp [bytesRow, dg, bs, Function.comp_def]
  have hnew : (w.drew.alloc (.cells (bytesRow s (grownCap w s.size 0 e)) e ((bytesRow s (grownCap w s.size 0 e)).size, (bytesRow s (grownCap w s.size 0 e)).size + 1))).heap[w.heap.size]? = some (.cells (dg (bs s) ++ List.replicate (grownCap w s.size 0 e - s.size) (Value.int .u8 0)).toArray e ((bytesRow s (grownCap w s.size 0 e)).size, (bytesRow s (grownCap w s.size 0 e)).size + 1)) := by
    rw [show w.heap.size = w.drew.heap.size from rfl, heap_alloc_new]
    congr 1
    rw [hrow]
  exact hk _ _ _ ⟨hok.a.put hlt _, hok.w.add hal hnew (Nat.le_refl _)⟩ (h _ _ _ _)

/-- copy(d, s) of bytes, into a block of the call's own. -/
theorem S_copy {args : Array Operand} {t tx e : TypeId} (i : Nat) {b off dn dc : Nat} {x : Value} {l l' : List Value} {T : TypeId} {L : List Int} (ho : o.op = .call { callee := .builtin .copy, args := args, argTypes := #[t, tx] })
    (hv : evs st.env args.toList = some [.slice (some ⟨b, off, none⟩) dn dc, x]) (ht : cx.P.underlying t = some (.slice e)) (hz : (cx.P.info? e).map (·.size) = some 1) (hi : st.mem[i]? = some (b, row T l))
    (hx : ∀ w, OkW cx st.mem st.facts w → SlB w x L) (hfit : off + dn ≤ l.length) (hl : l.take off ++ dg (L.take dn) ++ l.drop (off + min L.length dn) = l')
    (h : K (match o.dst with
      | some d => { st with env := (d, .int .i64 (min L.length dn : Nat)) :: st.env, mem := st.mem.set i (b, row T l') }
      | none => { st with mem := st.mem.set i (b, row T l') })) (hlt : ∀ d, o.dst = some d → Nat.blt d cx.nt = true) : S cx o K st := by
  intro Q next a w hok hk
  obtain ⟨cs, e0⟩ := run_builtin hok.a ho hv w
  have hw := hok.w.at hi
  have hxw := hx w hok.w
  have hlen : (dg (L.take dn)).length = min L.length dn := by rw [dg_length, List.length_take, Nat.min_comm]
  have hcopy : ∃ w', (Builtin.copy_ #[t, tx] o.type #[.slice (some ⟨b, off, none⟩) dn dc, x]).run cx.P w = .ok (.int .i64 (min L.length dn : Nat)) w' ∧ Fr [b] w w' ∧ w'.heap[b]? = some (row T l') := by
    rcases hxw with ⟨rfl, a', c', rfl⟩ | ⟨b2, off2, c', rfl, hc⟩
    · refine ⟨w, ?_, Fr.refl _ _, ?_⟩
      · have := run_copy_none (P := cx.P) w t tx o.type e (some ⟨b, off, none⟩) a' dn dc 0 c' ht hz (Nat.zero_min _)
        simpa [goInt] using this
      · rw [hw, ← hl]
        simp [dg]
    · have hr := run_copy_row (P := cx.P) w t tx o.type e b off dn dc ⟨b2, off2, none⟩ L.length c' l.toArray T (dg (L.take dn)) ht hz hw hlen
        (fun j v hj => by
          rw [add_at]
          have hjl := (List.getElem?_eq_some_iff.1 hj).1
          rw [hlen] at hjl
          simp only [dg, List.getElem?_map, List.getElem?_take, Option.map_eq_some_iff] at hj
          obtain ⟨y, hy, rfl⟩ := hj
          rw [if_pos (by omega)] at hy
          exact hc j y hy) (by rw [hlen]; simp only [List.size_toArray]; omega) (dg_one _)
      refine ⟨_, by rw [hr, hlen]; rfl, Fr.setRow _, ?_⟩
      rw [setRow_same w b _ _ T (0, 0) hw, ← hl]
  obtain ⟨w', hr, hfr, hb⟩ := hcopy
  have hval : (execOp a.eval o).run cx.P w = .ok (.value (.int .i64 (min L.length dn : Nat))) w' := by
    rw [e0]
    simp only [builtin, Sem.run_bind, hr, Result.andThen_ok, Sem.run_pure]
  refine wpIn_value (nd ho (fun c h => by cases h)) hval ?_
  cases hd : o.dst with
  | none => rw [hd] at h; exact hk { st with mem := st.mem.set i (b, row T l') } _ _ ⟨hok.a, hok.w.set hi hfr hb⟩ h
  | some d => rw [hd] at h; exact hk { st with env := (d, .int .i64 (min L.length dn : Nat)) :: st.env, mem := st.mem.set i (b, row T l') } _ _ ⟨hok.a.put (hlt d hd) _, hok.w.set hi hfr hb⟩ h
end more

/-! ### More of them -/
section yet
variable {cx : Cx} {o : Oper} {st : St} {ops : Array Oper} {K : St → Prop} {rest : List Oper}
theorem dg_append (a b : List Int) : dg (a ++ b) = dg a ++ dg b := by simp [dg]
theorem dg_cons (a : Int) (b : List Int) : dg (a :: b) = .int .u8 a :: dg b := rfl
theorem dg_nil : dg [] = [] := rfl

theorem SlB.first {P : Program} {w : World} {ao : Option Addr} {n c : Nat} {l : List Int} (h : SlB w (.slice ao n c) l) : (Builtin.firstCells 1 n (.slice ao n c)).run P w = .ok (dg l).toArray w := by
  rcases h with ⟨rfl, a', c', e⟩ | ⟨b, off, c', e, hc⟩
  · simp only [Value.slice.injEq] at e
    obtain ⟨rfl, rfl, rfl⟩ := e
    cases ao with
    | none => simp [Builtin.firstCells, dg]
    | some a =>
      have := run_firstCells_some (P := P) w 1 0 a 0 c [] rfl (fun j u hj => by simp at hj)
      simpa [dg] using this
  · simp only [Value.slice.injEq] at e
    obtain ⟨rfl, rfl, rfl⟩ := e
    exact run_firstCells_some w 1 l.length _ l.length c (dg l) (by simp [dg_length]) (fun j u hj => by
      rw [add_at]
      simp only [dg, List.getElem?_map, Option.map_eq_some_iff] at hj
      obtain ⟨x, hx, rfl⟩ := hj
      exact hc j x hx)

theorem run_bs1 {P : Program} {t e : TypeId} {z v : Value} {i : TypeInfo} (ht : P.underlying t = some (.slice e)) (hi : P.info? e = some i) (hsz : i.size = 1) (hz : i.zero = some z) (hzc : z.oneCell' = true) (hv : v.oneCell' = true) (w : World) :
    (Instr.buildSlice t 1 #[(0, v)]).run P w = .ok (.slice (some ⟨w.heap.size, 0, none⟩) 1 1) (w.alloc (row e [v])) := by
  have hc : v.cells = #[v] := by cases v <;> first | rfl | (simp [Value.oneCell'] at hv)
  have hc2 : z.cells = #[z] := by cases z <;> first | rfl | (simp [Value.oneCell'] at hzc)
  simp [Instr.buildSlice, run_underlying ht, sizeOf, typeInfo, hi, hsz, zeroValue, hz, hc2, Instr.fill, hc, newRow]
  have e1 : (Array.map (fun x => [z][x % 1]?.getD default) (Array.range 1)).setIfInBounds 0 v = [v].toArray := by
    have : Array.range 1 = #[0] := by decide
    rw [this]
    apply Array.ext'
    simp
  rw [e1]
theorem L_bs1 {t e : TypeId} {x : Operand} {z v : Value} {d : Nat} (hg : o.guard = none) (ho : o.op = .buildSlice t 1 #[(0, x)]) (hd : o.dst = some d) (hlt : Nat.blt d cx.nt = true) (hx : ev st.env x = some v)
    (ht : cx.P.underlying t = some (.slice e)) (hi : (cx.P.info? e).map (fun i => (i.zero, i.size)) = some (some z, 1)) (hzc : z.oneCell' = true) (hv : v.oneCell' = true)
    (h : ∀ g, L cx ops K rest { st with env := (d, .slice (some ⟨g, 0, none⟩) 1 1) :: st.env, mem := st.mem ++ [(g, row e [v])] }) : L cx ops K (o :: rest) st := by
  cases hq : cx.P.info? e with
  | none => simp [hq] at hi
  | some i =>
    simp only [hq, Option.map_some, Option.some.injEq, Prod.mk.injEq] at hi
    exact L_buildSlice (vs := [(0, v)]) hg ho hd hlt (by simp [hx]) (fun w => run_bs1 ht hq hi.2 hi.1 hzc hv w) h

theorem run_eqNil {P : Program} {t e : TypeId} (w : World) (d : Nat) (ht : P.underlying t = some (.pointer e)) (p : Option Addr) : (Op.equalIn (d + 1) t (.pointer p) (.pointer none)).run P w = .ok p.isNone w := by
  cases p <;> simp [Op.equalIn, run_underlying ht]
theorem V_eqP {t yt e : TypeId} {x y : Operand} {p : Option Addr} {r : Bool} (ho : o.op = .binOp .eql t x y yt) (hx : ev st.env x = some (.pointer p)) (hy : ev st.env y = some (.pointer none)) (ht : cx.P.underlying t = some (.pointer e)) (hr : p.isNone = r) : V cx o st (.bool r) :=
  ⟨nd ho (fun c h => by cases h), fun a' w h => by
    subst hr
    unfold execOp; rw [ho]
    have hg : (eqGuard .eql t x y (.pointer p) (.pointer none)).run cx.P w = .ok () w := rfl
    have he : (Op.equal t (.pointer p) (.pointer none)).run cx.P w = .ok p.isNone w := run_eqNil w 9999 ht p
    simp only [h.a.ev hx, h.a.ev hy, Sem.run_bind, hg, Result.andThen_ok, binOp, he, Sem.run_pure]⟩
theorem V_neP {t yt e : TypeId} {x y : Operand} {p : Option Addr} {r : Bool} (ho : o.op = .binOp .neq t x y yt) (hx : ev st.env x = some (.pointer p)) (hy : ev st.env y = some (.pointer none)) (ht : cx.P.underlying t = some (.pointer e)) (hr : (!p.isNone) = r) : V cx o st (.bool r) :=
  ⟨nd ho (fun c h => by cases h), fun a' w h => by
    subst hr
    unfold execOp; rw [ho]
    have hg : (eqGuard .neq t x y (.pointer p) (.pointer none)).run cx.P w = .ok () w := rfl
    have he : (Op.equal t (.pointer p) (.pointer none)).run cx.P w = .ok p.isNone w := run_eqNil w 9999 ht p
    simp only [h.a.ev hx, h.a.ev hy, Sem.run_bind, hg, Result.andThen_ok, binOp, he, Sem.run_pure]⟩
theorem V_nilCheck {x : Operand} {a : Addr} (ho : o.op = .nilCheck x) (hx : ev st.env x = some (.pointer (some a))) : V cx o st (.pointer (some a)) :=
  ⟨nd ho (fun c h => by cases h), fun a' w h => by
    unfold execOp; rw [ho]
    simp only [h.a.ev hx]; rfl⟩
theorem V_min {x y : Operand} {at_ : Array TypeId} {k k' : IntKind} {m n r : Int} (ho : o.op = .call { callee := .builtin .min, args := #[x, y], argTypes := at_ }) (hx : ev st.env x = some (.int k m)) (hy : ev st.env y = some (.int k' n)) (hr : (if n < m then n else m) = r) : V cx o st (.int k r) :=
  V_builtin ho (vs := [.int k m, .int k' n]) (by simp [evs, hx, hy]) fun cs w _ => by
    subst hr
    simp only [builtin, Sem.run_bind, run_min_int2, Result.andThen_ok, Sem.run_pure]

/-- A new row of bytes, and what lies behind it. -/
structure NewB (T : TypeId) (w w' : World) (g : Nat) (l : List Int) (r : List Value) : Prop where
  fr : Fr [] w w'
  new : w.heap.size ≤ g
  at_ : w'.heap[g]? = some (row T (dg l ++ r))
theorem NewB.okW {m : Mem} {fs : List Fact} {T : TypeId} {w w' : World} {g : Nat} {l : List Int} {r : List Value} (h : OkW cx m fs w) (hn : NewB T w w' g l r) : OkW cx (m ++ [(g, row T (dg l ++ r))]) fs w' := h.add hn.fr hn.at_ hn.new
theorem NewB.of {m : Mem} {fs : List Fact} {w : World} (hw : OkW cx m fs w) (hm : cx.mods = []) {i g : Nat} {T : TypeId} {l : List Int} {r : List Value} (hi : m[i]? = some (g, row T (dg l ++ r))) : NewB T cx.w0 w g l r := by
  refine ⟨?_, ?_, hw.at hi⟩
  · have := hw.fr; rwa [hm] at this
  · have := hw.may g (List.mem_map.2 ⟨_, List.mem_of_getElem? hi, rfl⟩)
    rw [hm] at this
    simpa using this

theorem V_slice0 {t e : TypeId} {x : Operand} {hi mx : Option Operand} {a : Option Addr} {n c sz h m : Nat} (ho : o.op = .slice t x none hi mx) (hx : ev st.env x = some (.slice a n c)) (ht : cx.P.underlying t = some (.slice e)) (hz : (cx.P.info? e).map (·.size) = some sz)
    (hh : Bd st.env hi n h) (hm : Bd st.env mx c m) (hmx : (mx.isSome && hi.isNone) = false) (h2 : h ≤ m) (h3 : m ≤ c) : V cx o st (.slice a h m) :=
  V_sliceS ho hx ht hz (lo := none) (l := 0) rfl hh hm hmx (Nat.zero_le _) h2 h3 (by
    have : a.map (·.add (0 * sz)) = a := by cases a <;> simp [Addr.add]
    rw [this]
    simp)

/-- The place of a byte. -/
theorem V_indexB {t e : TypeId} {x y : Operand} {k : IntKind} {n cap : Nat} {a : Option Addr} {l : List Int} {i : Int} (ho : o.op = .indexAddr t x y) (hx : ev st.env x = some (.slice a n cap)) (hy : ev st.env y = some (.int k i))
    (hu : cx.P.underlying t = some (.slice e)) (hz : (cx.P.info? e).map (·.size) = some 1) (hs : ∀ w, OkW cx st.mem st.facts w → SlB w (.slice a n cap) l) (h0 : 0 ≤ i) (h1 : i < n) : V cx o st (.pointer (a.map (·.add i.toNat))) :=
  ⟨nd ho (fun c h => by cases h), fun a' w h => by
    have hsl := hs w h.w
    have hsz := hsl.size
    obtain ⟨b, off, rfl, _⟩ := hsl.cell (j := i.toNat) (x := l[i.toNat]'(by omega)) (by simp)
    unfold execOp; rw [ho]
    simp only [h.a.ev hx, h.a.ev hy, Instr.indexAt, asIntOf, Instr.sureAddr, Sem.run_bind, Sem.run_pure, Result.andThen_ok, run_underlying hu]
    rw [if_pos ⟨h0, h1⟩]
    simp only [Sem.run_bind, run_sizeOf hz, Result.andThen_ok, Sem.run_pure, Nat.mul_one, Option.map_some]⟩
theorem V_loadB {t : TypeId} {x : Operand} {d : TypeDesc} {n cap j : Nat} {a : Option Addr} {l : List Int} {r : Int} (ho : o.op = .load t x) (hx : ev st.env x = some (.pointer (a.map (·.add j)))) (hu : cx.P.underlying t = some d) (hsc : scalarB d = true)
    (hs : ∀ w, OkW cx st.mem st.facts w → SlB w (.slice a n cap) l) (h1 : j < n) (hr : l.getD j 0 = r) : V cx o st (.int .u8 r) := by
  refine ⟨nd ho (fun c h => by cases h), fun a' w h => ?_⟩
  have hsl := hs w h.w
  have hsz := hsl.size
  have hj : l[j]? = some r := by
    rw [← hr, List.getD_eq_getElem?_getD, List.getElem?_eq_getElem (by omega)]
    rfl
  obtain ⟨b, off, rfl, hc⟩ := hsl.cell hj
  have hx' : ev st.env x = some (.pointer (some ⟨b, off + j, none⟩)) := by rw [hx, Option.map_some, add_at]
  unfold execOp; rw [ho]
  simp only [h.a.ev hx', Instr.loadAt, Instr.sureAddr, Sem.run_bind, Sem.run_pure, Result.andThen_ok, run_loadVar1 hu hsc hc]

theorem SlB.form {w : World} {v : Value} {l : List Int} (h : SlB w v l) : ∃ a c, v = .slice a l.length c := by
  rcases h with ⟨rfl, a, c, rfl⟩ | ⟨b, off, c, rfl, _⟩
  · exact ⟨a, c, rfl⟩
  · exact ⟨_, c, rfl⟩
theorem okF1 {P : Program} {w : World} {nt : Nat} {mods : List Nat} {u : Value} {a : List Int} (hu : SlB w u a) : OkW { P := P, w0 := w, nt := nt, mods := mods } [] [factB u a] w :=
  okW_facts fun f hf => by
    simp only [List.mem_singleton] at hf
    subst hf
    exact ⟨hu, factB_lt hu⟩
theorem okFs {P : Program} {w : World} {nt : Nat} {mods : List Nat} {us : List (Value × List Int)} (h : ∀ p ∈ us, SlB w p.1 p.2) : OkW { P := P, w0 := w, nt := nt, mods := mods } [] (us.map fun p => factB p.1 p.2) w :=
  okW_facts fun f hf => by
    obtain ⟨p, hp, rfl⟩ := List.mem_map.1 hf
    exact ⟨h p hp, factB_lt (h p hp)⟩
theorem fB {m : Mem} {fs : List Fact} {w : World} (h : OkW cx m fs w) (i : Nat) {u : Value} {l : List Int} (hi : fs[i]? = some (factB u l)) : SlB w u l :=
  (h.facts _ (List.mem_of_getElem? hi)).1
/-- What was so, and of which nothing has been turned, is so. -/
theorem SlB.later {m : Mem} {fs : List Fact} {w : World} (h : OkW cx m fs w) (hm : cx.mods = []) {u : Value} {l : List Int} (hu : SlB cx.w0 u l) : SlB w u l := hu.fr (hm ▸ h.fr)
end yet

/-! ### A slice of the call's own, or nil -/
section own
variable {cx : Cx} {o : Oper} {st : St} {ops : Array Oper} {K : St → Prop} {rest : List Oper}

/-- Its block, its room, and what lies behind its elements. -/
abbrev OwnR := Option (Nat × Nat × List Value)
def oA : OwnR → Option Addr
  | none => none
  | some (g, _, _) => some ⟨g, 0, none⟩
def oC : OwnR → Nat
  | none => 0
  | some (_, c, _) => c
def ownV (q : OwnR) (n : Nat) : Value := .slice (oA q) n (oC q)
def ownM (e : TypeId) (q : OwnR) (ks : List Value) : Mem :=
  match q with
  | none => []
  | some (g, _, r) => [(g, row e (ks ++ r))]
def OwnC (size : Nat) (q : OwnR) (n : Nat) (ks : List Value) : Prop :=
  match q with
  | none => n = 0 ∧ ks = []
  | some (_, c, r) => ks.length = n * size ∧ n ≤ c ∧ r.length = (c - n) * size

theorem OwnC.len {size : Nat} {q : OwnR} {n : Nat} {ks : List Value} (h : OwnC size q n ks) : ks.length = n * size := by
  cases q with
  | none => obtain ⟨rfl, rfl⟩ := h; simp
  | some q => exact h.1

theorem append_none0 {P : Program} {t tx ty e : TypeId} {x : Value} {w : World} {size bytes : Nat} {z : Value} (ht : P.underlying t = some (.slice e)) (he : ElemOf P e size bytes z) {news : List Value} (hs : Src P size tx x 0 news w) :
    (Builtin.append_ #[t, tx] ty #[.slice none 0 0, x]).run P w = .ok (.slice none 0 0) w := by
  obtain ⟨⟨i, hi, hz, hsz, hby⟩, hzs⟩ := he
  subst hsz
  have h0 : news = [] := List.eq_nil_of_length_eq_zero (by have := hs.newsLen; simpa using this)
  subst h0
  rcases hs.kind with ⟨e', hk⟩ | hk <;> simp [Builtin.append_, run_underlying ht, run_underlying hk, sizeOf, typeInfo, hi, hs.len, hs.cells]

theorem S_appendN {K : St → Prop} {args : Array Operand} {t tx e : TypeId} (m1 m2 : Mem) (q : OwnR) (ks : List Value) {d size bytes n m : Nat} {z x : Value} {news : List Value} (ho : o.op = .call { callee := .builtin .append, args := args, argTypes := #[t, tx] }) (hd : o.dst = some d) (hlt : Nat.blt d cx.nt = true)
    (hv : evs st.env args.toList = some [ownV q n, x]) (ht : cx.P.underlying t = some (.slice e)) (he : ElemOf cx.P e size bytes z) (hm : st.mem = m1 ++ (ownM e q ks ++ m2)) (hq : OwnC size q n ks)
    (hsrc : SrcAt cx st size tx x m news) (hb : (n + m) * bytes ≤ 140737488355328) (h63 : n + m ≤ 9223372036854775807)
    (h : ∀ q', OwnC size q' (n + m) (ks ++ news) → K { st with env := (d, ownV q' (n + m)) :: st.env, mem := m1 ++ (ownM e q' (ks ++ news) ++ m2) }) : S cx o K st := by
  intro Q next a w hok hk
  have hnl := (hsrc w hok.w).newsLen
  cases q with
  | some q =>
    obtain ⟨b, cap, r0⟩ := q
    obtain ⟨hks, hnc, hr0⟩ := hq
    refine S_appendO m1.length (b := b) (cap := cap) (ks := ks) (r0 := r0) (n := n) (m := m) (x := x) (news := news) ho hd hlt hv ht he ?_ hks hr0 hnc hsrc hb h63 (fun g c r hc hr => ?_) Q next a w hok hk
    · rw [hm, List.getElem?_append_right (Nat.le_refl _), Nat.sub_self]
      rfl
    · have h1 := h (some (g, c, r)) ⟨by rw [List.length_append, hks, Nat.add_mul, hnl], hc, hr⟩
      have e1 : swapMem st.mem m1.length g (row e (ks ++ news ++ r)) = m1 ++ (ownM e (some (g, c, r)) (ks ++ news) ++ m2) := by
        rw [hm]
        unfold swapMem
        rw [List.set_append_right _ _ (Nat.le_refl _), Nat.sub_self]
        rfl
      rw [e1]
      exact h1
  | none =>
    obtain ⟨rfl, rfl⟩ := hq
    simp only [ownM, List.nil_append] at hm
    by_cases hm0 : m = 0
    · subst hm0
      have hs := hsrc w hok.w
      have hn0 : news = [] := List.eq_nil_of_length_eq_zero (by have := hs.newsLen; simpa using this)
      refine wpIn_value (nd ho (fun c h => by cases h)) (run_append_op hok.a ho hv (append_none0 ht he hs)) ?_
      rw [hd]
      have h1 := h none ⟨rfl, by simp [hn0]⟩
      refine hk _ _ _ ⟨hok.a.put hlt _, ?_⟩ h1
      show OkW cx (m1 ++ (ownM e none ([] ++ news) ++ m2)) _ _
      simp only [ownM, List.nil_append]
      rw [← hm]
      exact hok.w
    · refine S_appendG (n := 0) (cap := 0) (olds := []) (m := m) (news := news) (x := x) (ao := none) ho hd hlt hv ht he (fun w _ => by simp [Builtin.firstCells]) hsrc (by omega) hb h63 (K := fun s => ∃ q', OwnC size q' (0 + m) ([] ++ news) ∧ s = { st with env := (d, ownV q' (0 + m)) :: st.env, mem := st.mem ++ ownM e q' ([] ++ news) }) (fun g c r hc hr => ?_) Q next a w hok ?_
      · exact ⟨some (g, c, r), ⟨by simpa using hnl, hc, hr⟩, rfl⟩
      · rintro st' a' w' hok' ⟨q', hq', rfl⟩
        have h1 := h q' hq'
        refine hk { st with env := (d, ownV q' (0 + m)) :: st.env, mem := m1 ++ (ownM e q' ([] ++ news) ++ m2) } a' w' ⟨hok'.a, ?_⟩ h1
        refine hok'.w.perm ?_
        simp only [hm, List.append_assoc]
        exact List.Perm.append_left _ List.perm_append_comm

theorem SlB.ofN {m1 m2 : Mem} {fs : List Fact} {w : World} {e : TypeId} {q : OwnR} {n : Nat} {l : List Int} {ks : List Value} (h : OkW cx (m1 ++ (ownM e q ks ++ m2)) fs w) (hq : OwnC 1 q n ks) (hk : ks = dg l) : SlB w (ownV q n) l := by
  subst hk
  have hl := hq.len
  rw [dg_length, Nat.mul_one] at hl
  cases q with
  | none => exact .inl ⟨List.eq_nil_of_length_eq_zero (by rw [hl]; exact hq.1), none, 0, by rw [hq.1]; rfl⟩
  | some q =>
    obtain ⟨b, c, r⟩ := q
    exact SlB.of_own (i := m1.length) (r := r) (T := e) (fz := (0, 0)) h (by rw [List.getElem?_append_right (Nat.le_refl _), Nat.sub_self]; rfl) hl c

/-- A function hands back such a row. -/
def RetB (T : TypeId) (w : World) (l : List Int) (n : Nat) (val : Value → Value) : Ending → World → Prop := fun e w' =>
  ∃ g r c, e = .returned (val (.slice (some ⟨g, 0, none⟩) n c)) ∧ NewB T w w' g l r ∧ l.length = n ∧ n ≤ c ∧ r.length = c - n
theorem L_callB {x : Operand} {args : Array Operand} {at_ : Array TypeId} {f : FuncId} {cap : Array Value} {vs : List Value} {d n : Nat} {T : TypeId} {l : List Int} {val : Value → Value} (hg : o.guard = none) (ho : o.op = .call { callee := .value x, args := args, argTypes := at_ })
    (hd : o.dst = some d) (hlt : Nat.blt d cx.nt = true) (hx : ev st.env x = some (.func (.func f) #[] cap)) (hv : evs st.env args.toList = some vs) (hf : Txt cx.P f)
    (hc : ∀ w, OkW cx st.mem st.facts w → Calls cx.P f (vs.toArray ++ cap) w (RetB T w l n val))
    (h : ∀ g r c, l.length = n → n ≤ c → r.length = c - n → L cx ops K rest { st with env := (d, val (.slice (some ⟨g, 0, none⟩) n c)) :: st.env, mem := st.mem ++ [(g, row T (dg l ++ r))] }) : L cx ops K (o :: rest) st :=
  L_call hg ho hx hv hf fun w hw => (hc w hw).mono fun e w' ⟨g, r, c, he, hn, h1, h2, h3⟩ => ⟨_, _, _, he, hn.okW hw, by rw [hd]; exact ⟨hlt, h g r c h1 h2 h3⟩⟩
theorem RetB.of {m : Mem} {fs : List Fact} {w : World} (hw : OkW cx m fs w) (hm : cx.mods = []) (i : Nat) {g n c : Nat} {T : TypeId} {l : List Int} {r : List Value} {val : Value → Value} {v : Value} (hi : m[i]? = some (g, row T (dg l ++ r))) (hv : v = val (.slice (some ⟨g, 0, none⟩) n c)) (hl : l.length = n) (hc : n ≤ c) (hr : r.length = c - n) :
    RetB T cx.w0 l n val (.returned v) w := ⟨g, r, c, by rw [hv], NewB.of hw hm hi, hl, hc, hr⟩

theorem src_bytes' {tx e' : TypeId} {x : Value} {l : List Int} {n : Nat} {P : Program} {w : World} (hk : P.underlying tx = some (.slice e')) (h : SlB w x l) (hl : l.length = n) : Src P 1 tx x n (dg l) w := hl ▸ src_bytes hk h

theorem L_appN {args : Array Operand} {t tx e : TypeId} (m1 m2 : Mem) (q : OwnR) (ks : List Value) {d size bytes n m n' : Nat} {z x : Value} {news ks' : List Value} (hg : o.guard = none) (ho : o.op = .call { callee := .builtin .append, args := args, argTypes := #[t, tx] }) (hd : o.dst = some d) (hlt : Nat.blt d cx.nt = true)
    (hv : evs st.env args.toList = some [ownV q n, x]) (ht : cx.P.underlying t = some (.slice e)) (he : ElemOf cx.P e size bytes z) (hm : st.mem = m1 ++ (ownM e q ks ++ m2)) (hq : OwnC size q n ks)
    (hsrc : SrcAt cx st size tx x m news) (hn : n + m = n') (hk : ks ++ news = ks') (hb : n' * bytes ≤ 140737488355328) (h63 : n' ≤ 9223372036854775807)
    (h : ∀ q', OwnC size q' n' ks' → L cx ops K rest { st with env := (d, ownV q' n') :: st.env, mem := m1 ++ (ownM e q' ks' ++ m2) }) : L cx ops K (o :: rest) st := by
  subst hn hk
  exact L_cons hg (S_appendN m1 m2 q ks ho hd hlt hv ht he hm hq hsrc hb h63 h)
/-- The own block is the last one. -/
theorem L_appL {args : Array Operand} {t tx e : TypeId} (m1 : Mem) (q : OwnR) (ks : List Value) {d size bytes n m n' : Nat} {z x : Value} {news ks' : List Value} (hg : o.guard = none) (ho : o.op = .call { callee := .builtin .append, args := args, argTypes := #[t, tx] }) (hd : o.dst = some d) (hlt : Nat.blt d cx.nt = true)
    (hv : evs st.env args.toList = some [ownV q n, x]) (ht : cx.P.underlying t = some (.slice e)) (he : ElemOf cx.P e size bytes z) (hm : st.mem = m1 ++ ownM e q ks) (hq : OwnC size q n ks)
    (hsrc : SrcAt cx st size tx x m news) (hn : n + m = n') (hk : ks ++ news = ks') (hb : n' * bytes ≤ 140737488355328) (h63 : n' ≤ 9223372036854775807)
    (h : ∀ q', OwnC size q' n' ks' → L cx ops K rest { st with env := (d, ownV q' n') :: st.env, mem := m1 ++ ownM e q' ks' }) : L cx ops K (o :: rest) st :=
  L_appN m1 [] q ks hg ho hd hlt hv ht he (by rw [hm, List.append_nil]) hq hsrc hn hk hb h63 (by simpa only [List.append_nil] using h)
theorem L_appG {args : Array Operand} {t tx e : TypeId} {d size bytes n m n' cap : Nat} {z x : Value} {ao : Option Addr} {olds news ks' : List Value} (hg : o.guard = none) (ho : o.op = .call { callee := .builtin .append, args := args, argTypes := #[t, tx] }) (hd : o.dst = some d) (hlt : Nat.blt d cx.nt = true)
    (hv : evs st.env args.toList = some [.slice ao n cap, x]) (ht : cx.P.underlying t = some (.slice e)) (he : ElemOf cx.P e size bytes z)
    (hold : ∀ w, OkW cx st.mem st.facts w → (Builtin.firstCells size n (.slice ao n cap)).run cx.P w = .ok olds.toArray w) (hsrc : SrcAt cx st size tx x m news) (hn : n + m = n') (hk : olds ++ news = ks') (hcap : cap < n') (hb : n' * bytes ≤ 140737488355328) (h63 : n' ≤ 9223372036854775807)
    (h : ∀ (g c : Nat) (r : List Value), n' ≤ c → r.length = (c - n') * size → L cx ops K rest { st with env := (d, .slice (some ⟨g, 0, none⟩) n' c) :: st.env, mem := st.mem ++ [(g, row e (ks' ++ r))] }) : L cx ops K (o :: rest) st := by
  subst hn hk
  exact L_cons hg (S_appendG ho hd hlt hv ht he hold hsrc hcap hb h63 h)
theorem L_appO {args : Array Operand} {t tx e : TypeId} (i : Nat) {d size bytes n m n' cap b : Nat} {z x : Value} (ks r0 : List Value) {news ks' : List Value} (hg : o.guard = none) (ho : o.op = .call { callee := .builtin .append, args := args, argTypes := #[t, tx] }) (hd : o.dst = some d) (hlt : Nat.blt d cx.nt = true)
    (hv : evs st.env args.toList = some [.slice (some ⟨b, 0, none⟩) n cap, x]) (ht : cx.P.underlying t = some (.slice e)) (he : ElemOf cx.P e size bytes z) (hi : st.mem[i]? = some (b, row e (ks ++ r0))) (hks : ks.length = n * size) (hr0 : r0.length = (cap - n) * size) (hnc : n ≤ cap)
    (hsrc : SrcAt cx st size tx x m news) (hn : n + m = n') (hk : ks ++ news = ks') (hb : n' * bytes ≤ 140737488355328) (h63 : n' ≤ 9223372036854775807)
    (h : ∀ (g c : Nat) (r : List Value), n' ≤ c → r.length = (c - n') * size → L cx ops K rest { st with env := (d, .slice (some ⟨g, 0, none⟩) n' c) :: st.env, mem := swapMem st.mem i g (row e (ks' ++ r)) }) : L cx ops K (o :: rest) st := by
  subst hn hk
  exact L_cons hg (S_appendO i ho hd hlt hv ht he hi hks hr0 hnc hsrc hb h63 h)
theorem L_mem {l : List Oper} (m' : Mem) (e : st.mem = m') (h : L cx ops K l { st with mem := m' }) : L cx ops K l st := by
  subst e
  exact h
end own

section inMem
variable {cx : Cx}
theorem SlB.in {m : Mem} {fs : List Fact} {b n : Nat} {l : List Int} {r : List Value} {T : TypeId} {fz : Nat × Nat} {w : World} (h : OkW cx m fs w) (hi : (b, Obj.cells (dg l ++ r).toArray T fz) ∈ m) (hl : l.length = n) (c : Nat) : SlB w (.slice (some ⟨b, 0, none⟩) n c) l := by
  obtain ⟨i, hi⟩ := List.mem_iff_getElem?.1 hi
  exact SlB.of_own h hi hl c
end inMem

section range0
variable {cx : Cx}
/-- No round stops. -/
theorem J_rangeFunc0 {Z X : Type} {K : Exit → St → Prop} {st : St} {g : Operand} {ps : Array Tmp} {assign body : Code} {gf : FuncId} {lb : Array Value}
    (M : Nat → Z → Mem) (priv : Z → X) (z0 : Z) (N : Nat) (vals : Nat → List Value)
    (hro : cx.ro = none) (hds : st.ds = []) (hg : ev st.env g = some (.func (.func gf) #[] lb)) (hf : Txt cx.P gf) (hps : ∀ k, (vals k).length = ps.size) (hpl : ∀ p ∈ ps.toList, Nat.blt p cx.nt = true)
    (h0 : M 0 z0 = st.mem)
    (hiter : ∀ D l r w, RoundsOk cx st.facts M (M N) priv N vals .skip D l r → OkW cx (M 0 z0 ++ tl D l r) st.facts w → Calls cx.P gf (#[.func (.yield l) #[] #[]] ++ lb) w (IterR cx st.facts M (M N) N .skip D l r))
    (hassign : ∀ D l r k z, k < N → J { cx with ro := some l } assign (Exit.thenS (fun s1 => s1.ds = [] ∧ s1.facts = st.facts ∧ s1.mem = M k z ++ tl D l r ∧
        J { cx with ro := some l } body (fun e s => s.facts = st.facts ∧ match e with
          | .normal => ∃ z', priv z' = priv z ∧ Pk (M (k + 1) z' ++ tl D l { r with state := .busy }) s.mem
          | _ => False) { s1 with mem := M k z ++ tl D l { r with state := .busy } }) (fun _ _ => False))
      { env := zipE ps.toList (vals k) st.env, mem := M k z ++ tl D l r, facts := st.facts, ds := [] })
    (hdone : ∀ D z, K .normal { st with mem := M N z ++ [(D, .deferred (some []))], ds := [{ target := .collected D, args := #[] }] }) :
    J cx (.rangeFunc g ps assign body) K st :=
  J_rangeFunc M (M N) priv .skip z0 N vals hro hds hg hf hps hpl h0 hiter (fun D l r k z hk => (hassign D l r k z hk).mono fun e s hs => by
    cases e with
    | normal =>
      obtain ⟨h1, h2, h3, h4⟩ := hs
      refine ⟨h1, h2, h3, h4.mono fun e2 s2 h5 => ⟨h5.1, ?_⟩⟩
      have h6 := h5.2
      cases e2 with
      | normal => exact h6
      | ret => exact h6.elim
      | exit id => exact h6.elim
      | goto l => exact h6.elim
      | panic c => exact h6.elim
      | outgrown => exact h6.elim
    | ret => exact hs.elim
    | exit id => exact hs.elim
    | goto l => exact hs.elim
    | panic c => exact hs.elim
    | outgrown => exact hs.elim) hdone (fun D z => J_skip (hdone D z))
end range0
theorem SlB.recap {w : World} {a : Option Addr} {n c : Nat} {l : List Int} (h : SlB w (.slice a n c) l) (c' : Nat) : SlB w (.slice a n c') l := by
  have := h.take (Nat.le_refl n) c'
  rwa [← h.size, List.take_length, h.size] at this
theorem take_next {L : List Int} {k : Nat} (h : k < L.length) : L.take (k + 1) = L.take k ++ [L.getD k 0] := by
  rw [List.take_add_one, List.getD_eq_getElem?_getD, List.getElem?_eq_getElem h]
  rfl
theorem ba_size (l : List Int) : (ba l).size = l.length := by
  unfold ba
  show (List.map _ l).toArray.size = _
  simp
theorem getD_app_right {a b : List Int} {i : Nat} (h : a.length ≤ i) : (a ++ b).getD i 0 = b.getD (i - a.length) 0 := by
  rw [List.getD_eq_getElem?_getD, List.getElem?_append_right h, ← List.getD_eq_getElem?_getD]
theorem getD_rep {n i : Nat} {x : Int} (h : i < n) : (List.replicate n x).getD i 0 = x := by
  rw [List.getD_eq_getElem?_getD, List.getElem?_replicate, if_pos h]
  rfl
theorem szd {x : Option Nat} {n m : Nat} (h : x = some n) (e : m = n) : x = some m := by rw [h, e]

/-! ### Blocks of others -/
section foreign
variable {cx : Cx} {o : Oper} {st : St}
theorem OkW.later {m : Mem} {fs : List Fact} {w : World} (h : OkW cx m fs w) (hm : cx.mods = []) {b : Nat} {p : Obj} (hb : cx.w0.heap[b]? = some p) : w.heap[b]? = some p := by
  have hlt := (Array.getElem?_eq_some_iff.1 hb).1
  rw [h.fr.block b hlt (by rw [hm]; simp)]
  exact hb
theorem V_loadF {t : TypeId} {x : Operand} {d : TypeDesc} {b off : Nat} {l : List Value} {T : TypeId} {fz : Nat × Nat} {v : Value} (ho : o.op = .load t x) (hx : ev st.env x = some (.pointer (some ⟨b, off, none⟩))) (hu : cx.P.underlying t = some d) (hs : scalarB d = true)
    (hb : ∀ w, OkW cx st.mem st.facts w → w.heap[b]? = some (.cells l.toArray T fz)) (hv : l[off]? = some v) : V cx o st v :=
  V_load ho hx hu hs fun w hw => cell_of (hb w hw) (by simpa using hv)
theorem SlB.apart {w : World} {a : Option Addr} {n c : Nat} {l : List Int} {b : Nat} {T : TypeId} {v : Value} (h : SlB w (.slice a n c) l) (hb : w.heap[b]? = some (row T [v])) (hv : ∀ x, v ≠ .int .u8 x) : ∀ k, (factB (.slice a n c) l).fp k → k ≠ b := by
  rintro k ⟨hne, off, n', c', e⟩ rfl
  simp only [Value.slice.injEq] at e
  obtain ⟨rfl, rfl, rfl⟩ := e
  cases l with
  | nil => exact hne rfl
  | cons x l =>
    obtain ⟨b', off', e', hc⟩ := h.cell (j := 0) (x := x) rfl
    simp only [Option.some.injEq, Addr.mk.injEq] at e'
    obtain ⟨rfl, rfl, _⟩ := e'
    simp only [World.cell?, hb] at hc
    have : off = 0 := by
      cases off with
      | zero => rfl
      | succ n => simp at hc
    subst this
    simp at hc
    exact hv x hc
theorem okM1 {P : Program} {w : World} {nt : Nat} {b : Nat} {p : Obj} {fs : List Fact} (hb : w.heap[b]? = some p) (hf : ∀ f ∈ fs, f.p w ∧ ∀ k, f.fp k → k < w.heap.size ∧ k ≠ b) : OkW { P := P, w0 := w, nt := nt, mods := [b] } [(b, p)] fs w :=
  ⟨fun c q hq => by simp only [List.mem_singleton, Prod.mk.injEq] at hq; obtain ⟨rfl, rfl⟩ := hq; exact hb, by simp, fun c hc => .inr (by simpa using hc), fun f hf' => ⟨(hf f hf').1, fun k hk => ⟨((hf f hf').2 k hk).1, by simpa using ((hf f hf').2 k hk).2⟩⟩, Fr.refl _ _⟩
/-- A reader's block, and what it reads. -/
theorem okR {P : Program} {w : World} {nt : Nat} {b : Nat} {T : TypeId} {a a' : Option Addr} {n c n' c' : Nat} {l : List Int} (hb : w.heap[b]? = some (row T [.slice a' n' c'])) (hu : SlB w (.slice a n c) l) : OkW { P := P, w0 := w, nt := nt, mods := [b] } [(b, row T [.slice a' n' c'])] [factB (.slice a n c) l] w :=
  okM1 hb fun f hf => by
    simp only [List.mem_singleton] at hf
    subst hf
    exact ⟨hu, fun k hk => ⟨factB_lt hu k hk, hu.apart hb (fun x h => by cases h) k hk⟩⟩

theorem L_copyD {ops : Array Oper} {K : St → Prop} {rest : List Oper} {args : Array Operand} {t tx e : TypeId} (i : Nat) {b off dn dc d : Nat} {x : Value} {l : List Value} (l' : List Value) {T : TypeId} {L : List Int} (hg : o.guard = none) (ho : o.op = .call { callee := .builtin .copy, args := args, argTypes := #[t, tx] }) (hd : o.dst = some d) (hlt : Nat.blt d cx.nt = true)
    (hv : evs st.env args.toList = some [.slice (some ⟨b, off, none⟩) dn dc, x]) (ht : cx.P.underlying t = some (.slice e)) (hz : (cx.P.info? e).map (·.size) = some 1) (hi : st.mem[i]? = some (b, row T l))
    (hx : ∀ w, OkW cx st.mem st.facts w → SlB w x L) (hfit : off + dn ≤ l.length) (hl : l.take off ++ dg (L.take dn) ++ l.drop (off + min L.length dn) = l')
    (h : Sx.L cx ops K rest { st with env := (d, .int .i64 (min L.length dn : Nat)) :: st.env, mem := st.mem.set i (b, row T l') }) : Sx.L cx ops K (o :: rest) st :=
  L_cons hg (S_copy i ho hv ht hz hi hx hfit hl (by rw [hd]; exact h) (fun d' h' => by rw [hd] at h'; injection h' with h'; subst h'; exact hlt))
end foreign
theorem SlB.from {w : World} {a : Option Addr} {n c : Nat} {L : List Int} (h : SlB w (.slice a n c) L) {l : Nat} (h1 : l ≤ n) (h2 : n ≤ c) : SlB w (.slice (if c = l then a else a.map (·.add (l * 1))) (n - l) (c - l)) (L.drop l) := by
  have := h.part (l := l) (hh := n) (m := c) h1 (Nat.le_refl _) h2
  rwa [List.take_of_length_le (by rw [List.length_drop, h.size]; exact Nat.le_refl _)] at this
theorem Byt.drop {l : List Int} (h : Byt l) (k : Nat) : Byt (l.drop k) := fun x hx => h x (List.mem_of_mem_drop hx)
theorem Byt.take {l : List Int} (h : Byt l) (k : Nat) : Byt (l.take k) := fun x hx => h x (List.mem_of_mem_take hx)
theorem Byt.append {a b : List Int} (h : Byt a) (k : Byt b) : Byt (a ++ b) := fun x hx => (List.mem_append.1 hx).elim (h x) (k x)

/-! ### Slices of whatever elements -/
section cellsS
variable {cx : Cx} {o : Oper} {st : St}

/-- The slice has n elements of so many cells, and reads as these. -/
def SlC (size : Nat) (w : World) (v : Value) (n : Nat) (cs : List Value) : Prop :=
  (n = 0 ∧ cs = [] ∧ ∃ a c, v = .slice a 0 c) ∨ ∃ b off c, v = .slice (some ⟨b, off, none⟩) n c ∧ cs.length = n * size ∧ ∀ (j : Nat) (x : Value), cs[j]? = some x → w.cell? ⟨b, off + j, none⟩ = some x

theorem SlC.len {size : Nat} {w : World} {v : Value} {n : Nat} {cs : List Value} (h : SlC size w v n cs) : cs.length = n * size := by
  rcases h with ⟨rfl, rfl, _⟩ | ⟨_, _, _, _, h, _⟩
  · simp
  · exact h
theorem SlC.form {size : Nat} {w : World} {v : Value} {n : Nat} {cs : List Value} (h : SlC size w v n cs) : ∃ a c, v = .slice a n c := by
  rcases h with ⟨rfl, rfl, a, c, rfl⟩ | ⟨b, off, c, rfl, _⟩
  · exact ⟨a, c, rfl⟩
  · exact ⟨_, c, rfl⟩
theorem SlC.fr {size : Nat} {w w' : World} {v : Value} {n : Nat} {cs : List Value} (h : SlC size w v n cs) (hf : Fr [] w w') : SlC size w' v n cs := by
  rcases h with h | ⟨b, off, c, rfl, hl, h⟩
  · exact .inl h
  · refine .inr ⟨b, off, c, rfl, hl, fun j x hj => ?_⟩
    have hc := h j x hj
    have hlt : b < w.heap.size := World.block_lt_of_cell? w _ hc
    rw [World.cell?_of_block (w := w) (hf.block b hlt (by simp))]
    exact hc
theorem SlC.later {size : Nat} {m : Mem} {fs : List Fact} {w : World} (h : OkW cx m fs w) (hm : cx.mods = []) {u : Value} {n : Nat} {cs : List Value} (hu : SlC size cx.w0 u n cs) : SlC size w u n cs := hu.fr (hm ▸ h.fr)
theorem SlC.dep {size : Nat} {w w' : World} {v : Value} {n : Nat} {cs : List Value} (hk : ∀ k, (cs ≠ [] ∧ ∃ off n c, v = .slice (some ⟨k, off, none⟩) n c) → w'.heap[k]? = w.heap[k]?) (h : SlC size w v n cs) : SlC size w' v n cs := by
  rcases h with h | ⟨b, off, c, rfl, hl, h⟩
  · exact .inl h
  · refine .inr ⟨b, off, c, rfl, hl, fun j x hj => ?_⟩
    rw [World.cell?_of_block (w := w) (hk b ⟨fun e => by rw [e] at hj; simp at hj, off, _, c, rfl⟩)]
    exact h j x hj
def factC (size : Nat) (v : Value) (n : Nat) (cs : List Value) : Fact :=
  { fp := fun k => cs ≠ [] ∧ ∃ off n c, v = .slice (some ⟨k, off, none⟩) n c, p := fun w => SlC size w v n cs, dep := fun _ _ hk h => h.dep hk }
theorem factC_lt {size : Nat} {w : World} {v : Value} {n : Nat} {cs : List Value} (h : SlC size w v n cs) : ∀ k, (factC size v n cs).fp k → k < w.heap.size := by
  rintro k ⟨hne, off, n', c, rfl⟩
  rcases h with h | ⟨b, off', c', e, hl, h⟩
  · exact absurd h.2.1 hne
  · simp only [Value.slice.injEq, Option.some.injEq, Addr.mk.injEq] at e
    obtain ⟨⟨rfl, rfl, _⟩, rfl, rfl⟩ := e
    cases cs with
    | nil => exact absurd rfl hne
    | cons x l => exact World.block_lt_of_cell? w _ (h 0 x rfl)
theorem fC {size : Nat} {m : Mem} {fs : List Fact} {w : World} (h : OkW cx m fs w) (i : Nat) {u : Value} {n : Nat} {cs : List Value} (hi : fs[i]? = some (factC size u n cs)) : SlC size w u n cs :=
  (h.facts _ (List.mem_of_getElem? hi)).1
theorem SlC.of_own {size : Nat} {m : Mem} {fs : List Fact} {i b n : Nat} {ks r : List Value} {T : TypeId} {fz : Nat × Nat} {w : World} (h : OkW cx m fs w) (hi : m[i]? = some (b, .cells (ks ++ r).toArray T fz)) (hl : ks.length = n * size) (c : Nat) : SlC size w (.slice (some ⟨b, 0, none⟩) n c) n ks :=
  .inr ⟨b, 0, c, rfl, hl, fun j x hj => cell_of (h.at hi) (by
    have hlt := (List.getElem?_eq_some_iff.1 hj).1
    rw [Nat.zero_add, List.getElem?_toArray, List.getElem?_append_left hlt]
    exact hj)⟩
theorem SlC.ofN {size : Nat} {m1 m2 : Mem} {fs : List Fact} {w : World} {e : TypeId} {q : OwnR} {n : Nat} {ks : List Value} (h : OkW cx (m1 ++ (ownM e q ks ++ m2)) fs w) (hq : OwnC size q n ks) : SlC size w (ownV q n) n ks := by
  cases q with
  | none => exact .inl ⟨hq.1, hq.2, none, 0, by rw [hq.1]; rfl⟩
  | some q =>
    obtain ⟨b, c, r⟩ := q
    exact SlC.of_own (i := m1.length) (r := r) (T := e) (fz := (0, 0)) h (by rw [List.getElem?_append_right (Nat.le_refl _), Nat.sub_self]; rfl) hq.1 c
theorem SlC.cell {size : Nat} {w : World} {a : Option Addr} {n c : Nat} {cs : List Value} (h : SlC size w (.slice a n c) n cs) {j : Nat} {x : Value} (hj : cs[j]? = some x) : ∃ b off, a = some ⟨b, off, none⟩ ∧ w.cell? ⟨b, off + j, none⟩ = some x := by
  rcases h with ⟨rfl, rfl, a', c', e⟩ | ⟨b, off, c', e, hl, hc⟩
  · simp at hj
  · simp only [Value.slice.injEq] at e
    obtain ⟨rfl, _, rfl⟩ := e
    exact ⟨b, off, rfl, hc j x hj⟩
theorem SlB.toC {w : World} {v : Value} {l : List Int} (h : SlB w v l) : SlC 1 w v l.length (dg l) := by
  rcases h with ⟨rfl, a, c, rfl⟩ | ⟨b, off, c, rfl, h⟩
  · exact .inl ⟨rfl, rfl, a, c, rfl⟩
  · refine .inr ⟨b, off, c, rfl, by rw [dg_length, Nat.mul_one], fun j x hj => ?_⟩
    simp only [dg, List.getElem?_map, Option.map_eq_some_iff] at hj
    obtain ⟨y, hy, rfl⟩ := hj
    exact h j y hy

/-- The place of an element. -/
theorem V_indexC {t e : TypeId} {x y : Operand} {k : IntKind} {n cap size : Nat} {a : Option Addr} {cs : List Value} {i : Int} (ho : o.op = .indexAddr t x y) (hx : ev st.env x = some (.slice a n cap)) (hy : ev st.env y = some (.int k i))
    (hu : cx.P.underlying t = some (.slice e)) (hz : (cx.P.info? e).map (·.size) = some (size + 1)) (hs : ∀ w, OkW cx st.mem st.facts w → SlC (size + 1) w (.slice a n cap) n cs) (h0 : 0 ≤ i) (h1 : i < n) : V cx o st (.pointer (a.map (·.add (i.toNat * (size + 1))))) :=
  ⟨nd ho (fun c h => by cases h), fun a' w h => by
    have hsl := hs w h.w
    have hlen := hsl.len
    have hpos : 0 < cs.length := by
      rw [hlen]
      exact Nat.mul_pos (by omega) (by omega)
    obtain ⟨b, off, rfl, _⟩ := hsl.cell (j := 0) (x := cs[0]) (by simp)
    unfold execOp; rw [ho]
    simp only [h.a.ev hx, h.a.ev hy, Instr.indexAt, asIntOf, Instr.sureAddr, Sem.run_bind, Sem.run_pure, Result.andThen_ok, run_underlying hu]
    rw [if_pos ⟨h0, h1⟩]
    simp only [Sem.run_bind, run_sizeOf hz, Result.andThen_ok, Sem.run_pure, Option.map_some]⟩
/-- The place of an element's part. -/
theorem V_fieldC {t : TypeId} {x : Operand} {fs : Array Field} {f : Field} {i j j' n : Nat} {a : Option Addr} (ho : o.op = .fieldAddr t x i) (hx : ev st.env x = some (.pointer (a.map (·.add j)))) (ha : ∀ w, OkW cx st.mem st.facts w → ∃ b off, a = some ⟨b, off, none⟩)
    (hu : cx.P.underlying t = some (.struct fs)) (hf : fs[i]? = some f) (hz : (cx.P.info? f.type).map (·.size) = some (n + 1)) (he : j + f.offset = j') : V cx o st (.pointer (a.map (·.add j'))) :=
  ⟨nd ho (fun c h => by cases h), fun a' w h => by
    obtain ⟨b, off, rfl⟩ := ha w h.w
    have hx' : ev st.env x = some (.pointer (some ⟨b, off + j, none⟩)) := by rw [hx, Option.map_some, add_at]
    unfold execOp; rw [ho]
    simp only [h.a.ev hx', Instr.fieldAt, Instr.sureAddr, Sem.run_bind, Sem.run_pure, Result.andThen_ok, run_underlying hu, hf, fieldPlace, run_sizeOf hz]
    rw [if_neg (Nat.succ_ne_zero n)]
    simp only [Sem.run_pure, Result.andThen_ok, add_at, Option.map_some]
    rw [Nat.add_assoc, he]⟩
theorem V_loadC {t : TypeId} {x : Operand} {d : TypeDesc} {n cap size j : Nat} {a : Option Addr} {cs : List Value} {r : Value} (ho : o.op = .load t x) (hx : ev st.env x = some (.pointer (a.map (·.add j)))) (hu : cx.P.underlying t = some d) (hsc : scalarB d = true)
    (hs : ∀ w, OkW cx st.mem st.facts w → SlC size w (.slice a n cap) n cs) (hr : cs[j]? = some r) : V cx o st r := by
  refine ⟨nd ho (fun c h => by cases h), fun a' w h => ?_⟩
  obtain ⟨b, off, rfl, hc⟩ := (hs w h.w).cell hr
  have hx' : ev st.env x = some (.pointer (some ⟨b, off + j, none⟩)) := by rw [hx, Option.map_some, add_at]
  unfold execOp; rw [ho]
  simp only [h.a.ev hx', Instr.loadAt, Instr.sureAddr, Sem.run_bind, Sem.run_pure, Result.andThen_ok, run_loadVar1 hu hsc hc]
/-- A whole element, of more than one cell. -/
theorem V_loadCN {t : TypeId} {x : Operand} {d : TypeDesc} {n cap size j : Nat} {a : Option Addr} {cs vs : List Value} (ho : o.op = .load t x) (hx : ev st.env x = some (.pointer (a.map (·.add j)))) (hu : cx.P.underlying t = some d) (hsc : scalarB d = false) (hz : (cx.P.info? t).map (·.size) = some vs.length)
    (hs : ∀ w, OkW cx st.mem st.facts w → SlC size w (.slice a n cap) n cs) (hpos : 0 < vs.length) (hr : ∀ k u, vs[k]? = some u → cs[j + k]? = some u) : V cx o st (.agg vs.toArray) := by
  refine ⟨nd ho (fun c h => by cases h), fun a' w h => ?_⟩
  have hsl := hs w h.w
  obtain ⟨b, off, rfl, _⟩ := hsl.cell (hr 0 vs[0] (by simp))
  have hx' : ev st.env x = some (.pointer (some ⟨b, off + j, none⟩)) := by rw [hx, Option.map_some, add_at]
  have := V_loadN (cx := cx) (o := o) (st := st) (vs := vs) ho hx' hu hsc hz (fun w' hw' k u hk => by
    obtain ⟨b', off', e, hc⟩ := (hs w' hw').cell (hr k u hk)
    simp only [Option.some.injEq, Addr.mk.injEq] at e
    obtain ⟨rfl, rfl, _⟩ := e
    rw [Nat.add_assoc]
    exact hc)
  exact this.2 a' w h
/-- A part of such a slice. -/
theorem SlC.part {size : Nat} {w : World} {a : Option Addr} {n c : Nat} {cs : List Value} (h : SlC size w (.slice a n c) n cs) {l hh m : Nat} (h1 : l ≤ hh) (h2 : hh ≤ n) (h3 : hh ≤ m) : SlC size w (.slice (if m = l then a else a.map (·.add (l * size))) (hh - l) (m - l)) (hh - l) ((cs.drop (l * size)).take ((hh - l) * size)) := by
  by_cases he : hh = l
  · subst he
    rw [Nat.sub_self, Nat.zero_mul, List.take_zero]
    exact .inl ⟨rfl, rfl, _, _, rfl⟩
  · have hml : m ≠ l := by omega
    rw [if_neg hml]
    have hlen := h.len
    rcases h with ⟨rfl, rfl, a', c', e⟩ | ⟨b, off, c', e, hl, hc⟩
    · omega
    · simp only [Value.slice.injEq] at e
      obtain ⟨rfl, _, rfl⟩ := e
      refine .inr ⟨b, off + l * size, m - l, by simp only [Option.map_some, add_at], ?_, fun j x hj => ?_⟩
      · rw [List.length_take, List.length_drop, hlen, ← Nat.sub_mul]
        exact Nat.min_eq_left (Nat.mul_le_mul_right _ (by omega))
      · rw [List.getElem?_take] at hj
        split at hj
        · rw [List.getElem?_drop] at hj
          rw [Nat.add_assoc]
          exact hc _ _ hj
        · cases hj
theorem SlC.take {size : Nat} {w : World} {a : Option Addr} {n c : Nat} {cs : List Value} (h : SlC size w (.slice a n c) n cs) {k : Nat} (hk : k ≤ n) (m : Nat) : SlC size w (.slice a k m) k (cs.take (k * size)) := by
  have hlen := h.len
  rcases h with ⟨rfl, rfl, a', c', e⟩ | ⟨b, off, c', e, hl, hc⟩
  · obtain rfl : k = 0 := by omega
    exact .inl ⟨rfl, by simp, _, _, rfl⟩
  · simp only [Value.slice.injEq] at e
    obtain ⟨rfl, _, rfl⟩ := e
    refine .inr ⟨b, off, m, rfl, by rw [List.length_take, hlen]; exact Nat.min_eq_left (Nat.mul_le_mul_right _ hk), fun j x hj => ?_⟩
    rw [List.getElem?_take] at hj
    split at hj
    · exact hc _ _ hj
    · cases hj
theorem SlC.first {size : Nat} {P : Program} {w : World} {ao : Option Addr} {n c : Nat} {cs : List Value} (h : SlC size w (.slice ao n c) n cs) : (Builtin.firstCells size n (.slice ao n c)).run P w = .ok cs.toArray w := by
  rcases h with ⟨rfl, rfl, a', c', e⟩ | ⟨b, off, c', e, hl, hc⟩
  · cases ao with
    | none => simp [Builtin.firstCells]
    | some a => exact run_firstCells_some (P := P) w size 0 a 0 c [] (by simp) (fun j u hj => by simp at hj)
  · simp only [Value.slice.injEq] at e
    obtain ⟨rfl, _, rfl⟩ := e
    exact run_firstCells_some w size n _ n c cs hl (fun j u hj => by rw [add_at]; exact hc j u hj)
theorem SlC.src {size : Nat} {tx e' : TypeId} {P : Program} {w : World} {v : Value} {n : Nat} {cs : List Value} (hk : P.underlying tx = some (.slice e')) (h : SlC size w v n cs) (h1 : ∀ u ∈ cs, u.oneCell' = true) : Src P size tx v n cs w := by
  rcases h with ⟨rfl, rfl, a, c, rfl⟩ | ⟨b, off, c, rfl, hl, hc⟩
  · cases a with
    | none => exact Src.ofNil w hk c
    | some a => exact Src.ofSlice w hk a 0 c [] (by simp) (fun j u hj => by simp at hj) (fun u hu => by simp at hu)
  · exact Src.ofSlice w hk _ _ c cs hl (fun j u hj => by rw [add_at]; exact hc j u hj) h1
end cellsS

/-! ### A region whose order is open, with operations that turn the world -/
section mixed
variable {P : Program} {ops : Array Oper} {md : Region.Mode} {ro : Option Nat}

/-- No way out but the normal one. -/
def QN : Exit → Act → World → Prop := fun _ _ _ => False

/-- In this state the operation yields v and leaves the world as it is, in every world of the class. -/
def PureIn (P : Program) (ops : Array Oper) (C : World → Prop) (o : Oper) (v : Value) (a : Act) : Prop :=
  (Region.wanted o (yielded ops a.tmps) = true ∧ (∀ c, o.op ≠ .defer c) ∧ ∀ w, C w → (execOp a.eval o).run P w = .ok (.value v) w) ∨
  (Region.wanted o (yielded ops a.tmps) = false ∧ v = undef)

def wpAnyC (ro : Option Nat) (P : Program) (md : Region.Mode) (ops : Array Oper) (C : World → Prop) (Q : Act → World → Prop) : Nat → Array Bool → Act → World → Prop
  | 0, listed, a, w => Region.ready md ops listed = [] ∧ Q a w
  | f + 1, listed, a, w => (Region.ready md ops listed = [] → Q a w) ∧ ∀ i ∈ Region.ready md ops listed, wpOpIn (fen ro) 0 P ops QN i (fun a' w' => C w' ∧ wpAnyC ro P md ops C Q f (listed.setIfInBounds i true) a' w') a w

theorem uponIn_Q {o : Oper} {a : Act} {next : Act → World → Prop} {Q' : Exit → Act → World → Prop} {r : Result Next} (h : o.uponIn (fen ro) 0 P a next QN r) : o.uponIn (fen ro) 0 P a next Q' r := by
  cases r with
  | ok nx w' =>
    cases nx with
    | value v => exact h
    | skip => exact h
    | defer d => exact h
    | enter f args =>
      refine ⟨fun hx => (by cases hx), (h.2 : CallsIn _ _ _ _ _ _ _).mono ?_⟩
      intro e w'' he
      cases e with
      | returned v => exact he
      | panicked c => exact he.elim
      | outgrown => obtain ⟨_, _, hh⟩ := he; exact hh.elim
    | row row args => exact h
    | round l f tmps assign body =>
      refine ⟨fun hx => (by cases hx), (h.2 : RoundIn _ _ _ _ _ _ _ _ _ _).mono ?_⟩
      intro e w'' he
      cases e with
      | returned v => exact he
      | panicked c => exact he.elim
      | outgrown => obtain ⟨_, _, hh⟩ := he; exact hh.elim
    | _ => exact h.elim
  | halt x w' =>
    cases x with
    | panic v => exact h.elim
    | _ => exact h.elim

theorem wpOpIn_Q {i : Nat} {K : Act → World → Prop} {Q' : Exit → Act → World → Prop} {a : Act} {w : World} (h : wpOpIn (fen ro) 0 P ops QN i K a w) : wpOpIn (fen ro) 0 P ops Q' i K a w := by
  unfold wpOpIn at *
  cases ho : ops[i]? with
  | none => simp only [ho] at h ⊢; exact h
  | some o =>
    simp only [ho] at h ⊢
    split
    · rename_i hw; simp only [hw, if_true] at h; exact ⟨h.1, uponIn_Q h.2⟩
    · rename_i hw; simp only [hw] at h; exact h

theorem wpAnyIn_of_C {C : World → Prop} {Q : Act → World → Prop} {Q' : Exit → Act → World → Prop} (hQ : ∀ a w, Q a w → Q' .normal a w) : ∀ (f : Nat) (listed : Array Bool) (a : Act) (w : World),
    wpAnyC ro P md ops C Q f listed a w → wpAnyIn (fen ro) 0 P md ops Q' f listed a w
  | 0, _, _, _, h => ⟨h.1, hQ _ _ h.2⟩
  | f + 1, _, _, _, h => ⟨fun h0 => hQ _ _ (h.1 h0), fun i hi => wpOpIn_mono (fun a' w' h' => wpAnyIn_of_C hQ f _ a' w' h'.2) (wpOpIn_Q (h.2 i hi))⟩

/-- Whether another one's value is in its slot makes no difference to an operation that is apart from it. -/
theorem uponIn_put {o : Oper} {a : Act} {d : Option Tmp} {v : Value} {K : Act → World → Prop} {r : Result Next} (hd : ∀ t, d = some t → o.dst ≠ some t) (h : o.uponIn (fen ro) 0 P (a.put d v) K QN r) :
    o.uponIn (fen ro) 0 P a (fun a' w' => (∃ ds u, a' = ({ a with defers := ds } : Act).put o.dst u) ∧ K (a'.put d v) w') QN r := by
  have comm : ∀ (a : Act) u, (a.put d v).put o.dst u = (a.put o.dst u).put d v := fun a u => Act.put_comm a v u hd
  have same : ∀ (a : Act) ds, ({ a with defers := ds } : Act).put d v = { a.put d v with defers := ds } := fun a ds => by cases d <;> rfl
  have dfr : ∀ (a : Act), (a.put d v).defers = a.defers := fun a => by cases d <;> rfl
  cases r with
  | ok nx w' =>
    cases nx with
    | value u => exact ⟨⟨a.defers, u, rfl⟩, by rw [← comm]; exact h⟩
    | skip => exact ⟨⟨a.defers, undef, rfl⟩, by rw [← comm]; exact h⟩
    | defer x =>
      refine ⟨⟨x :: a.defers, undef, rfl⟩, ?_⟩
      rw [← comm, same]
      have h' : K (({ a.put d v with defers := x :: (a.put d v).defers } : Act).put o.dst undef) w' := h
      rwa [dfr] at h'
    | enter f args =>
      refine ⟨fun hx => (by cases hx), (h.2 : CallsIn _ _ _ _ _ _ _).mono ?_⟩
      intro e w'' he
      cases e with
      | returned u => exact ⟨⟨a.defers, u, rfl⟩, by rw [← comm]; exact he⟩
      | panicked c => exact he.elim
      | outgrown => exact he
    | row row args =>
      refine ⟨fun hx => (by cases hx), RowsIn.mono h.2 fun u w'' he => ⟨⟨a.defers, u, rfl⟩, by rw [← comm]; exact he⟩⟩
    | round l f tmps assign body =>
      refine ⟨fun hx => (by cases hx), (h.2 : RoundIn _ _ _ _ _ _ _ _ _ _).mono ?_⟩
      intro e w'' he
      cases e with
      | returned u => exact ⟨⟨a.defers, u, rfl⟩, by rw [← comm]; exact he⟩
      | panicked c => exact he.elim
      | outgrown => exact he
    | _ => exact h.elim
  | halt x w' =>
    cases x with
    | panic v => exact h.elim
    | _ => exact h.elim

theorem PureIn.of_same {C : World → Prop} {o : Oper} {v : Value} {a a' : Act} (hy : PureIn P ops C o v a) (he : execOp a'.eval o = execOp a.eval o)
    (hw : Region.wanted o (yielded ops a'.tmps) = Region.wanted o (yielded ops a.tmps)) : PureIn P ops C o v a' := by
  unfold PureIn at *
  rw [he, hw]
  exact hy
theorem PureIn.op {C : World → Prop} {i : Nat} {o : Oper} {v : Value} {a : Act} {w : World} (hi : ops[i]? = some o) (hC : C w) (hy : PureIn P ops C o v a) {K : Act → World → Prop} (h : K (a.put o.dst v) w) : wpOpIn (fen ro) 0 P ops QN i K a w := by
  unfold wpOpIn
  simp only [hi]
  rcases hy with ⟨hw, hnd, hv⟩ | ⟨hw, rfl⟩
  · simp only [hw, if_true]
    refine ⟨fun _ _ => trivial, ?_⟩
    rw [Oper.semAt_eq _ _ _ hnd, hv w hC]
    exact h
  · simp only [hw, Bool.false_eq_true, if_false]
    exact ⟨fun _ _ => trivial, h⟩

theorem opIn_put {C : World → Prop} {j : Nat} {oi oj : Oper} {v : Value} (hj : ops[j]? = some oj) (hap : oi.apart ops oj = true) (hsi : ∀ cs b, oi.op ≠ .select cs b) (hsj : ∀ cs b, oj.op ≠ .select cs b) {K : Act → World → Prop} {a : Act} {w : World}
    (hy : PureIn P ops C oi v a) (h : wpOpIn (fen none) 0 P ops QN j K (a.put oi.dst v) w) : wpOpIn (fen none) 0 P ops QN j (fun a' w' => PureIn P ops C oi v a' ∧ K (a'.put oi.dst v) w') a w := by
  obtain ⟨h1, h2, h3⟩ := Oper.apart_spec hap
  have keep : ∀ (ds : List Deferred) u, PureIn P ops C oi v (({ a with defers := ds } : Act).put oj.dst u) := fun ds u =>
    hy.of_same (execOp_put oi hsi { a with defers := ds } oj.dst u h3) (wanted_put oi { a with defers := ds } oj.dst u h3)
  unfold wpOpIn at *
  simp only [hj] at *
  rw [wanted_put oj a oi.dst v h1] at h
  split
  · rename_i hw
    simp only [hw, if_true] at h
    refine ⟨fun _ _ => trivial, ?_⟩
    have h4 := h.2
    have e1 : oj.semAt (fen none).round (a.put oi.dst v).eval = oj.semAt (fen none).round a.eval := execOp_put oj hsj a oi.dst v h1
    rw [e1] at h4
    have h5 := uponIn_put (a := a) (d := oi.dst) (v := v) h2 h4
    exact (Oper.wpIn_mono (F := fen none) (n := 0) (P := P) (o := oj) (a := a) (w := w) (Q := QN) (fun a' w' ⟨⟨ds, u, e⟩, hk⟩ => ⟨e ▸ keep ds u, hk⟩) ⟨fun _ _ => trivial, h5⟩).2
  · rename_i hw
    simp only [hw] at h
    exact ⟨fun _ _ => trivial, keep a.defers undef, by rw [← Act.put_comm a v undef h2]; exact h.2⟩

theorem wpAnyC_first {C : World → Prop} {Q : Act → World → Prop} {i : Nat} {oi : Oper} {v : Value} (hi : ops[i]? = some oi) (hsel : ∀ (j : Nat) (o : Oper) cs b, ops[j]? = some o → o.op ≠ .select cs b) :
    ∀ (f : Nat) (listed : Array Bool) (a : Act) (w : World), C w →
      (∀ j oj, ops[j]? = some oj → j ≠ i → listed.getD j true = false → (∀ e ∈ oj.after, Region.binds md e = true → e.on ≠ i) → oi.apart ops oj = true) →
      i ∈ Region.ready md ops listed → PureIn P ops C oi v a →
      wpAnyC none P md ops C Q f (listed.setIfInBounds i true) (a.put oi.dst v) w → wpAnyC none P md ops C Q (f + 1) listed a w := by
  intro f
  induction f with
  | zero =>
    intro listed a w hC _ hr hy H
    refine ⟨fun h => (by rw [h] at hr; cases hr), fun j hj => ?_⟩
    by_cases hji : j = i
    · subst hji; exact hy.op hi hC ⟨hC, H⟩
    · have := ready_mono hj hji
      rw [H.1] at this
      cases this
  | succ f ih =>
    intro listed a w hC hfree hr hy H
    refine ⟨fun h => (by rw [h] at hr; cases hr), fun j hj => ?_⟩
    by_cases hji : j = i
    · subst hji; exact hy.op hi hC ⟨hC, H⟩
    · have h1 := H.2 j (ready_mono hj hji)
      obtain ⟨hjun, oj, hoj, hall⟩ := mem_ready.1 hj
      have hnot : ∀ e ∈ oj.after, Region.binds md e = true → e.on ≠ i := fun e he hb heq => by
        have h1 := hall e he hb
        have h0 := (mem_ready.1 hr).1
        rw [heq] at h1
        rcases Nat.lt_or_ge i listed.size with h' | h'
        · simp [h'] at h0 h1; rw [h0] at h1; cases h1
        · simp [Array.getElem?_eq_none h'] at h1
      have h2 := opIn_put hoj (hfree j oj hoj hji hjun hnot) (fun cs b => hsel i oi cs b hi) (fun cs b => hsel j oj cs b hoj) hy h1
      have hfree' : ∀ k ok, ops[k]? = some ok → k ≠ i → (listed.setIfInBounds j true).getD k true = false →
          (∀ e ∈ ok.after, Region.binds md e = true → e.on ≠ i) → oi.apart ops ok = true := fun k ok hk hki hun hno => by
        refine hfree k ok hk hki ?_ hno
        by_cases hjk : j = k
        · subst hjk; exact hjun
        · rw [getD_set_ne true hjk] at hun; exact hun
      refine wpOpIn_mono (fun a' w' h3 => ⟨h3.2.1, ih (listed.setIfInBounds j true) a' w' h3.2.1 hfree' (ready_mono hr (Ne.symm hji)) h3.1 ?_⟩) h2
      rw [Array.setIfInBounds_comm _ _ hji]
      exact h3.2.2

/-- An order for all: an operation that leaves the world as it is, as soon as it may come; another one where it alone may come; of two that are open, each is walked first. -/
inductive Ord where
  | nil
  | pure (k : Nat) (r : Ord)
  | one (k : Nat) (r : Ord)
  | two (k1 : Nat) (r1 : Ord) (k2 : Nat) (r2 : Ord)
  | three (k1 : Nat) (r1 : Ord) (k2 : Nat) (r2 : Ord) (k3 : Nat) (r3 : Ord)
def Ord.len : Ord → Nat
  | .nil => 0
  | .pure _ r => r.len + 1
  | .one _ r => r.len + 1
  | .two _ r1 _ _ => r1.len + 1
  | .three _ r1 _ _ _ _ => r1.len + 1
def ordB (md : Region.Mode) (ops : Array Oper) : Ord → Array Bool → Bool
  | .nil, listed => decide (Region.ready md ops listed = [])
  | .pure k r, listed => (Region.ready md ops listed).contains k && Region.free md ops listed k && ordB md ops r (listed.setIfInBounds k true)
  | .one k r, listed => decide (Region.ready md ops listed = [k]) && ordB md ops r (listed.setIfInBounds k true)
  | .two k1 r1 k2 r2, listed => decide (Region.ready md ops listed = [k1, k2]) && decide (r1.len = r2.len) && ordB md ops r1 (listed.setIfInBounds k1 true) && ordB md ops r2 (listed.setIfInBounds k2 true)
  | .three k1 r1 k2 r2 k3 r3, listed => decide (Region.ready md ops listed = [k1, k2, k3]) && decide (r1.len = r2.len) && decide (r1.len = r3.len) && ordB md ops r1 (listed.setIfInBounds k1 true) && ordB md ops r2 (listed.setIfInBounds k2 true) && ordB md ops r3 (listed.setIfInBounds k3 true)

def wpOrd (P : Program) (ops : Array Oper) (C : World → Prop) (Q : Act → World → Prop) : Ord → Act → World → Prop
  | .nil, a, w => Q a w
  | .pure k r, a, w => ∃ o v, ops[k]? = some o ∧ PureIn P ops C o v a ∧ wpOrd P ops C Q r (a.put o.dst v) w
  | .one k r, a, w => wpOpIn (fen none) 0 P ops QN k (fun a' w' => C w' ∧ wpOrd P ops C Q r a' w') a w
  | .two k1 r1 k2 r2, a, w => wpOpIn (fen none) 0 P ops QN k1 (fun a' w' => C w' ∧ wpOrd P ops C Q r1 a' w') a w ∧ wpOpIn (fen none) 0 P ops QN k2 (fun a' w' => C w' ∧ wpOrd P ops C Q r2 a' w') a w
  | .three k1 r1 k2 r2 k3 r3, a, w => wpOpIn (fen none) 0 P ops QN k1 (fun a' w' => C w' ∧ wpOrd P ops C Q r1 a' w') a w ∧ wpOpIn (fen none) 0 P ops QN k2 (fun a' w' => C w' ∧ wpOrd P ops C Q r2 a' w') a w ∧ wpOpIn (fen none) 0 P ops QN k3 (fun a' w' => C w' ∧ wpOrd P ops C Q r3 a' w') a w

theorem wpAnyC_ord {C : World → Prop} {Q : Act → World → Prop} (hs : Region.noSelect ops = true) : ∀ (ord : Ord) (listed : Array Bool) (a : Act) (w : World), C w → ordB md ops ord listed = true →
    wpOrd P ops C Q ord a w → wpAnyC none P md ops C Q ord.len listed a w
  | .nil, _, _, _, _, hB, h => ⟨of_decide_eq_true hB, h⟩
  | .pure k r, listed, a, w, hC, hB, h => by
    simp only [ordB, Bool.and_eq_true] at hB
    obtain ⟨o, v, ho, hy, h'⟩ := h
    exact wpAnyC_first ho (Region.noSelect_spec hs) r.len listed a w hC (Region.free_spec ho hB.1.2) (by simpa using hB.1.1) hy (wpAnyC_ord hs r _ _ _ hC hB.2 h')
  | .one k r, listed, a, w, hC, hB, h => by
    simp only [ordB, Bool.and_eq_true, decide_eq_true_eq] at hB
    refine ⟨fun h0 => (by rw [hB.1] at h0; cases h0), fun i hi => ?_⟩
    rw [hB.1] at hi
    obtain rfl : i = k := by simpa using hi
    exact wpOpIn_mono (fun a' w' h' => ⟨h'.1, wpAnyC_ord hs r _ _ _ h'.1 hB.2 h'.2⟩) h
  | .two k1 r1 k2 r2, listed, a, w, hC, hB, h => by
    simp only [ordB, Bool.and_eq_true, decide_eq_true_eq] at hB
    obtain ⟨⟨⟨hr, hlen⟩, hB1⟩, hB2⟩ := hB
    refine ⟨fun h0 => (by rw [hr] at h0; cases h0), fun i hi => ?_⟩
    rw [hr] at hi
    have hi' : i = k1 ∨ i = k2 := by simpa using hi
    rcases hi' with rfl | rfl
    · exact wpOpIn_mono (fun a' w' h' => ⟨h'.1, wpAnyC_ord hs r1 _ _ _ h'.1 hB1 h'.2⟩) h.1
    · refine wpOpIn_mono (fun a' w' h' => ⟨h'.1, ?_⟩) h.2
      show wpAnyC none P md ops C Q r1.len _ _ _
      rw [hlen]
      exact wpAnyC_ord hs r2 _ _ _ h'.1 hB2 h'.2
  | .three k1 r1 k2 r2 k3 r3, listed, a, w, hC, hB, h => by
    simp only [ordB, Bool.and_eq_true, decide_eq_true_eq] at hB
    obtain ⟨⟨⟨⟨⟨hr, hlen⟩, hlen3⟩, hB1⟩, hB2⟩, hB3⟩ := hB
    refine ⟨fun h0 => (by rw [hr] at h0; cases h0), fun i hi => ?_⟩
    rw [hr] at hi
    have hi' : i = k1 ∨ i = k2 ∨ i = k3 := by simpa using hi
    rcases hi' with rfl | rfl | rfl
    · exact wpOpIn_mono (fun a' w' h' => ⟨h'.1, wpAnyC_ord hs r1 _ _ _ h'.1 hB1 h'.2⟩) h.1
    · refine wpOpIn_mono (fun a' w' h' => ⟨h'.1, ?_⟩) h.2.1
      show wpAnyC none P md ops C Q r1.len _ _ _
      rw [hlen]
      exact wpAnyC_ord hs r2 _ _ _ h'.1 hB2 h'.2
    · refine wpOpIn_mono (fun a' w' h' => ⟨h'.1, ?_⟩) h.2.2
      show wpAnyC none P md ops C Q r1.len _ _ _
      rw [hlen3]
      exact wpAnyC_ord hs r3 _ _ _ h'.1 hB3 h'.2
end mixed

section LO
variable {cx : Cx} {o : Oper} {st : St} {ops : Array Oper} {K : St → Prop} {m0 : Mem} {f0 : List Fact} {r : Ord}
/-- The walk in such an order. -/
def LO (cx : Cx) (m0 : Mem) (f0 : List Fact) (ops : Array Oper) (K : St → Prop) (ord : Ord) (st : St) : Prop :=
  ∀ a w, Ok cx st a w → wpOrd cx.P ops (OkW cx m0 f0) (fun a w => ∃ st', Ok cx st' a w ∧ K st') ord a w
theorem Pk.refl (m : Mem) : Pk m m := Pk.of_sub (List.Sublist.refl _)
theorem Pk.app {m m' : Mem} (h : Pk m m') (l : Mem) : Pk m (m' ++ l) := by
  obtain ⟨k, h1, h2⟩ := h
  exact ⟨k, h1, h2.trans (List.sublist_append_left _ _)⟩
theorem LO_nil (h : K st) : LO cx m0 f0 ops K .nil st := fun a w ho => ⟨st, ho, h⟩
theorem LO_v {k d : Nat} {v : Value} (hk : ops[k]? = some o) (hg : o.guard = none) (hd : o.dst = some d) (hlt : Nat.blt d cx.nt = true) (hv : V cx o { st with mem := m0, facts := f0 } v) (h : LO cx m0 f0 ops K r (st.put d v)) : LO cx m0 f0 ops K (.pure k r) st :=
  fun a w ho => ⟨o, v, hk, .inl ⟨by simp [Region.wanted, hg], hv.1, fun w' hw' => hv.2 a w' ⟨ho.a, hw'⟩⟩, by rw [hd]; exact h _ _ (ho.put hlt v)⟩
theorem LO_wv {k d j dj : Nat} {want : Bool} {v : Value} (hk : ops[k]? = some o) (hg : o.guard = some (j, want)) (hj : (ops[j]?).bind (·.dst) = some dj) (hdj : Nat.blt dj cx.nt = true) (hvj : get st.env dj = some (.bool want))
    (hd : o.dst = some d) (hlt : Nat.blt d cx.nt = true) (hv : V cx o { st with mem := m0, facts := f0 } v) (h : LO cx m0 f0 ops K r (st.put d v)) : LO cx m0 f0 ops K (.pure k r) st :=
  fun a w ho => ⟨o, v, hk, .inl ⟨by rw [wanted_eq ho.a hg hj hdj hvj]; simp [isB], hv.1, fun w' hw' => hv.2 a w' ⟨ho.a, hw'⟩⟩, by rw [hd]; exact h _ _ (ho.put hlt v)⟩
theorem LO_skip {k t j dj : Nat} {want : Bool} {u : Value} (hk : ops[k]? = some o) (hg : o.guard = some (j, want)) (hj : (ops[j]?).bind (·.dst) = some dj) (hdj : Nat.blt dj cx.nt = true) (hvj : get st.env dj = some u) (hb : isB want u = false)
    (ht : o.dst = some t) (htl : Nat.blt t cx.nt = true) (h : LO cx m0 f0 ops K r (st.put t undef)) : LO cx m0 f0 ops K (.pure k r) st :=
  fun a w ho => ⟨o, undef, hk, .inr ⟨by rw [wanted_eq ho.a hg hj hdj hvj, hb], rfl⟩, by rw [ht]; exact h _ _ (ho.put htl undef)⟩
/-- One that turns the world: the blocks that were there must still be told of. -/
theorem LO_s {k : Nat} (hro : cx.ro = none) (hk : ops[k]? = some o) (hg : o.guard = none) (h : S cx o (fun s => Pk m0 s.mem ∧ (∀ f ∈ f0, f ∈ s.facts) ∧ LO cx m0 f0 ops K r s) st) : LO cx m0 f0 ops K (.one k r) st := by
  intro a w ho
  show wpOpIn _ _ _ _ _ _ _ _ _
  unfold wpOpIn
  simp only [hk]
  rw [if_pos (by simp [Region.wanted, hg])]
  have := h QN (fun a' w' => OkW cx m0 f0 w' ∧ wpOrd cx.P ops (OkW cx m0 f0) (fun a w => ∃ st', Ok cx st' a w ∧ K st') r a' w') a w ho (fun s a' w' hs hK => ⟨hs.w.pk hK.1 hK.2.1, hK.2.2 a' w' hs⟩)
  rw [hro] at this
  exact this
theorem LO_sw {k j dj : Nat} {want : Bool} (hro : cx.ro = none) (hk : ops[k]? = some o) (hg : o.guard = some (j, want)) (hj : (ops[j]?).bind (·.dst) = some dj) (hdj : Nat.blt dj cx.nt = true) (hvj : get st.env dj = some (.bool want))
    (h : S cx o (fun s => Pk m0 s.mem ∧ (∀ f ∈ f0, f ∈ s.facts) ∧ LO cx m0 f0 ops K r s) st) : LO cx m0 f0 ops K (.one k r) st := by
  intro a w ho
  show wpOpIn _ _ _ _ _ _ _ _ _
  unfold wpOpIn
  simp only [hk]
  rw [if_pos (by rw [wanted_eq ho.a hg hj hdj hvj]; simp [isB])]
  have := h QN (fun a' w' => OkW cx m0 f0 w' ∧ wpOrd cx.P ops (OkW cx m0 f0) (fun a w => ∃ st', Ok cx st' a w ∧ K st') r a' w') a w ho (fun s a' w' hs hK => ⟨hs.w.pk hK.1 hK.2.1, hK.2.2 a' w' hs⟩)
  rw [hro] at this
  exact this
theorem LO_two {k1 k2 : Nat} {o1 o2 : Oper} {r1 r2 : Ord} (hro : cx.ro = none) (hk1 : ops[k1]? = some o1) (hg1 : o1.guard = none) (hk2 : ops[k2]? = some o2) (hg2 : o2.guard = none) (h1 : S cx o1 (fun s => Pk m0 s.mem ∧ (∀ f ∈ f0, f ∈ s.facts) ∧ LO cx m0 f0 ops K r1 s) st)
    (h2 : S cx o2 (fun s => Pk m0 s.mem ∧ (∀ f ∈ f0, f ∈ s.facts) ∧ LO cx m0 f0 ops K r2 s) st) : LO cx m0 f0 ops K (.two k1 r1 k2 r2) st :=
  fun a w ho => ⟨LO_s hro hk1 hg1 h1 a w ho, LO_s hro hk2 hg2 h2 a w ho⟩
theorem LO_split {ord : Ord} (s : Nat) {b : Bool} (hs : get st.env s = some (.bool b)) (ht : b = true → LO cx m0 f0 ops K ord (st.put s (.bool true))) (hf : b = false → LO cx m0 f0 ops K ord (st.put s (.bool false))) :
    LO cx m0 f0 ops K ord st := by
  intro a w ho
  cases b with
  | true => exact ht rfl a w ⟨put_same ho.a hs, ho.w⟩
  | false => exact hf rfl a w ⟨put_same ho.a hs, ho.w⟩

theorem J_regionO {Kx : Exit → St → Prop} {id : Nat} {l : List Oper} (ord : Ord) (m0 : Mem) (f0 : List Fact) (hp : Pk m0 st.mem) (hff : ∀ f ∈ f0, f ∈ st.facts) (hro : cx.ro = none) (hm : cx.P.follows .mixedOrders = true) (hB : (Region.noSelect l.toArray && decide (ord.len = l.toArray.size) && ordB .any l.toArray ord (Array.replicate l.toArray.size false)) = true)
    (h : LO cx m0 f0 l.toArray (Kx .normal) ord st) : J cx (.region id l.toArray true) Kx st := by
  intro a w ho
  simp only [Bool.and_eq_true, decide_eq_true_eq] at hB
  refine wpIn_region_any hm ?_
  have hw := ho.w.drew
  have h1 := wpAnyC_ord (md := .any) (C := OkW cx m0 f0) hB.1.1 ord (Array.replicate l.toArray.size false) a _ (hw.pk hp hff) hB.2 (h a _ ⟨ho.a, hw⟩)
  rw [hB.1.2] at h1
  rw [hro]
  exact wpAnyIn_of_C (fun a w h => h) _ _ _ _ h1

/-- A call, in the form of one operation. -/
theorem S_call {K : St → Prop} {x : Operand} {args : Array Operand} {at_ : Array TypeId} {f : FuncId} {cap : Array Value} {vs : List Value} (ho : o.op = .call { callee := .value x, args := args, argTypes := at_ })
    (hx : ev st.env x = some (.func (.func f) #[] cap)) (hv : evs st.env args.toList = some vs) (hf : Txt cx.P f)
    (hc : ∀ w, OkW cx st.mem st.facts w → Calls cx.P f (vs.toArray ++ cap) w fun e w' => ∃ v m fs, e = .returned v ∧ OkW cx m fs w' ∧
      (match o.dst with
       | some d => Nat.blt d cx.nt = true ∧ K { st with env := (d, v) :: st.env, mem := m, facts := fs }
       | none => K { st with mem := m, facts := fs })) : S cx o K st := by
  intro Q next a w hok hk
  refine ⟨fun _ _ => trivial, ?_⟩
  rw [Oper.semAt_eq _ _ _ (nd ho (fun c h => by cases h)), run_call hok.a ho hx hv hf w]
  refine ⟨fun h => (by cases h), ?_⟩
  refine callsIn_fen ((hc w hok.w).mono ?_)
  rintro e w' ⟨v, m, fs, rfl, hw', hL⟩
  cases hd : o.dst with
  | none =>
    rw [hd] at hL
    exact hk { st with mem := m, facts := fs } _ _ ⟨hok.a, hw'⟩ hL
  | some d =>
    rw [hd] at hL
    exact hk { st with env := (d, v) :: st.env, mem := m, facts := fs } _ _ ⟨hok.a.put hL.1 v, hw'⟩ hL.2
theorem S_callV {K : St → Prop} {x : Operand} {args : Array Operand} {at_ : Array TypeId} {f : FuncId} {cap : Array Value} {vs : List Value} {v : Value} {d : Nat} (ho : o.op = .call { callee := .value x, args := args, argTypes := at_ }) (hd : o.dst = some d) (hlt : Nat.blt d cx.nt = true)
    (hx : ev st.env x = some (.func (.func f) #[] cap)) (hv : evs st.env args.toList = some vs) (hf : Txt cx.P f)
    (hc : ∀ w, OkW cx st.mem st.facts w → Calls cx.P f (vs.toArray ++ cap) w fun e w' => e = .returned v ∧ Fr [] w w') (h : K (st.put d v)) : S cx o K st :=
  S_call ho hx hv hf fun w hw => (hc w hw).mono fun e w' ⟨he, hfr⟩ => ⟨v, st.mem, st.facts, he, hw.fr0 hfr, by rw [hd]; exact ⟨hlt, h⟩⟩
theorem LO_callV {k : Nat} {x : Operand} {args : Array Operand} {at_ : Array TypeId} {f : FuncId} {cap : Array Value} {vs : List Value} {v : Value} {d : Nat} (hro : cx.ro = none) (hk : ops[k]? = some o) (hg : o.guard = none) (ho : o.op = .call { callee := .value x, args := args, argTypes := at_ }) (hd : o.dst = some d) (hlt : Nat.blt d cx.nt = true)
    (hx : ev st.env x = some (.func (.func f) #[] cap)) (hv : evs st.env args.toList = some vs) (hf : Txt cx.P f)
    (hc : ∀ w, OkW cx st.mem st.facts w → Calls cx.P f (vs.toArray ++ cap) w fun e w' => e = .returned v ∧ Fr [] w w') (hp : Pk m0 st.mem) (hff : ∀ f ∈ f0, f ∈ st.facts) (h : LO cx m0 f0 ops K r (st.put d v)) : LO cx m0 f0 ops K (.one k r) st :=
  LO_s hro hk hg (S_callV ho hd hlt hx hv hf hc ⟨hp, hff, h⟩)
theorem LO_wcallV {k j dj : Nat} {want : Bool} {x : Operand} {args : Array Operand} {at_ : Array TypeId} {f : FuncId} {cap : Array Value} {vs : List Value} {v : Value} {d : Nat} (hro : cx.ro = none) (hk : ops[k]? = some o) (hg : o.guard = some (j, want)) (hj : (ops[j]?).bind (·.dst) = some dj) (hdj : Nat.blt dj cx.nt = true) (hvj : get st.env dj = some (.bool want)) (ho : o.op = .call { callee := .value x, args := args, argTypes := at_ }) (hd : o.dst = some d) (hlt : Nat.blt d cx.nt = true)
    (hx : ev st.env x = some (.func (.func f) #[] cap)) (hv : evs st.env args.toList = some vs) (hf : Txt cx.P f)
    (hc : ∀ w, OkW cx st.mem st.facts w → Calls cx.P f (vs.toArray ++ cap) w fun e w' => e = .returned v ∧ Fr [] w w') (hp : Pk m0 st.mem) (hff : ∀ f ∈ f0, f ∈ st.facts) (h : LO cx m0 f0 ops K r (st.put d v)) : LO cx m0 f0 ops K (.one k r) st :=
  LO_sw hro hk hg hj hdj hvj (S_callV ho hd hlt hx hv hf hc ⟨hp, hff, h⟩)
theorem LO_callB {k : Nat} {x : Operand} {args : Array Operand} {at_ : Array TypeId} {f : FuncId} {cap : Array Value} {vs : List Value} {d n : Nat} {T : TypeId} {l : List Int} {val : Value → Value} (hro : cx.ro = none) (hk : ops[k]? = some o) (hg : o.guard = none) (ho : o.op = .call { callee := .value x, args := args, argTypes := at_ })
    (hd : o.dst = some d) (hlt : Nat.blt d cx.nt = true) (hx : ev st.env x = some (.func (.func f) #[] cap)) (hv : evs st.env args.toList = some vs) (hf : Txt cx.P f)
    (hc : ∀ w, OkW cx st.mem st.facts w → Calls cx.P f (vs.toArray ++ cap) w (RetB T w l n val)) (hp : Pk m0 st.mem) (hff : ∀ f ∈ f0, f ∈ st.facts)
    (h : ∀ g r' c, l.length = n → n ≤ c → r'.length = c - n → LO cx m0 f0 ops K r { st with env := (d, val (.slice (some ⟨g, 0, none⟩) n c)) :: st.env, mem := st.mem ++ [(g, row T (dg l ++ r'))] }) : LO cx m0 f0 ops K (.one k r) st :=
  LO_s hro hk hg (S_call ho hx hv hf fun w hw => (hc w hw).mono fun e w' ⟨g, r', c, he, hn, h1, h2, h3⟩ => ⟨_, _, st.facts, he, hn.okW hw, by
    rw [hd]
    refine ⟨hlt, ?_, hff, h g r' c h1 h2 h3⟩
    obtain ⟨l', hp1, hp2⟩ := hp
    exact ⟨l', hp1, hp2.trans (List.sublist_append_left _ _)⟩⟩)
end LO

section
variable {cx : Cx} {o : Oper} {st : St}
theorem S_storeW {K : St → Prop} {t : TypeId} {x y : Operand} (i : Nat) {b : Nat} {l vs : List Value} {T : TypeId} (ho : o.op = .store t x y) (hd : o.dst = none) (hx : ev st.env x = some (.pointer (some ⟨b, 0, none⟩))) (hy : ev st.env y = some (.agg vs.toArray))
    (hi : st.mem[i]? = some (b, row T l)) (hz : (cx.P.info? t).map (·.size) = some vs.length) (h1 : ∀ u ∈ vs, u.oneCell' = true) (hl : l.length = vs.length)
    (h : K { st with mem := st.mem.set i (b, row T vs) }) : S cx o K st :=
  S_store i ho hd hx hy hi rfl hz h1 (by omega) (by simp; omega) h
end

/-! ### Structs that are held against one another -/
section structs
variable {P : Program}
def eqF (d : Nat) (xs ys : Array Value) : List (Bool × TypeId × Nat) → Sem Bool
  | [] => pure true
  | (nb, t, off) :: r =>
    if nb = true then do
      let a ← part t xs off
      let b ← part t ys off
      let q ← Op.equalIn d t a b
      if (!q) = true then pure false else eqF d xs ys r
    else eqF d xs ys r
theorem eqF_of (d : Nat) (xs ys : Array Value) : ∀ (fs : List Field), Op.eqFields d xs ys fs = eqF d xs ys (fs.map fun f => (decide (f.name ≠ "_"), f.type, f.offset))
  | [] => rfl
  | f :: fs => by
    simp only [Op.eqFields, List.map_cons, eqF, eqF_of d xs ys fs]
    by_cases h : f.name ≠ "_" <;> simp [h]
theorem run_eqStruct {t : TypeId} {spec : List (Bool × TypeId × Nat)} (w : World) (d : Nat) (xs ys : Array Value) (hu : P.underlying t = some (.struct (P.fieldsOf t))) (hp : P.stoodInHeld t = false) (hs : ((P.fieldsOf t).toList.map fun f => (decide (f.name ≠ "_"), f.type, f.offset)) = spec) :
    (Op.equalIn (d + 1) t (.agg xs) (.agg ys)).run P w = (eqF d xs ys spec).run P w := by
  rw [run_equalIn_struct w d t xs ys hu hp, eqF_of, hs]
theorem eqF_one {d : Nat} {xs ys : Array Value} {t : TypeId} {off : Nat} {r : List (Bool × TypeId × Nat)} {a b : Value} {q : Bool} {w : World} (hx : (part t xs off).run P w = .ok a w) (hy : (part t ys off).run P w = .ok b w) (hq : (Op.equalIn d t a b).run P w = .ok q w) :
    (eqF d xs ys ((true, t, off) :: r)).run P w = if q = true then (eqF d xs ys r).run P w else .ok false w := by
  simp only [eqF, if_true, Sem.run_bind, hx, hy, hq, Result.andThen_ok]
  cases q <;> simp
theorem run_partArr {t e : TypeId} {n sz : Nat} {cs : Array Value} {off : Nat} {w : World} (hu : P.underlying t = some (.array n e)) (hz : (P.info? t).map (·.size) = some sz) : (part t cs off).run P w = .ok (.agg (cs.extract off (off + sz))) w := by
  simp [part, isAgg, run_underlying hu, run_sizeOf hz]
theorem run_part1 {t : TypeId} {d : TypeDesc} {cs : List Value} {off : Nat} {v : Value} {w : World} (hu : P.underlying t = some d) (hs : scalarB d = true) (hv : cs[off]? = some v) : (part t cs.toArray off).run P w = .ok v w := by
  cases d <;> simp_all [part, isAgg, run_underlying, scalarB]
end structs
end Go.Sx
