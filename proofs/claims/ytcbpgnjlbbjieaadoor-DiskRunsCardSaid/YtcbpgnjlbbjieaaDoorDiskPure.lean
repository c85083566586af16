/- A disk, as plain data: bodies, the safe names, the changes behind them. No program in sight. -/
import Derived.Test.YtcbpgnjlbbjieaaDoorSx20
import Derived.Sort.Walk0
set_option linter.unusedVariables false
set_option linter.unusedSimpArgs false
namespace Go.Sx
open Go
theorem bits8d (op : BinOp) (x y : Int) : 0 ≤ bits2 op .u8 x y ∧ bits2 op .u8 x y < 256 := by
  have : ∀ n : Int, 0 ≤ IntKind.u8.wrap n ∧ IntKind.u8.wrap n < 256 := fun n => by
    rw [IntKind.wrap_u8]
    omega
  unfold bits2
  cases op <;> exact this _
theorem sz0d {s : ByteArray} : s = ⟨#[]⟩ ↔ s.size = 0 := by
  constructor
  · rintro rfl; rfl
  · intro h
    apply ByteArray.ext
    exact Array.eq_empty_of_size_eq_zero h
theorem ne0d (s : ByteArray) : decide (s ≠ ⟨#[]⟩) = decide (s.size ≠ 0) := decide_eq_decide.2 (not_congr sz0d)
theorem eq0d (s : ByteArray) : decide (s = ⟨#[]⟩) = decide (s.size = 0) := decide_eq_decide.2 sz0d
abbrev Bo := List Int × Nat
abbrev Ch := ByteArray × ByteArray × Nat
structure Dk where
  room : Int
  bo : List Bo
  sf : List Nm
  ch : List Ch
  down : Bool
  stops : Bool
  left : Int
def e0 : ByteArray := ⟨#[]⟩
def ltS (a b : ByteArray) : Bool := decide (a.data.toList < b.data.toList)
def insN (n : Nm) : List Nm → List Nm
  | [] => [n]
  | x :: r => if ltS n.1 x.1 then n :: x :: r else x :: insN n r
def wiN (l : List Nm) (n : Nm) : List Nm := insN n (delN l n.1)
def doN (l : List Nm) (c : Ch) : List Nm :=
  if c.2.1 = e0 then (if c.1 = e0 then l else delN l c.1) else wiN (if c.1 = e0 then l else delN l c.1) c.2
def doM (l : List Nm) (c : Ch) : List Nm :=
  if c.2.1 = e0 then (if c.1 = e0 then l else delN l c.1) else putN (if c.1 = e0 then l else delN l c.1) c.2.1 c.2.2
def Dk.all (D : Dk) : List Nm := D.ch.foldl doN D.sf
/-! ### Order -/
theorem ltS_irr (a : ByteArray) : ltS a a = false := decide_eq_false (List.lt_irrefl _)
theorem ltS_trans {a b c : ByteArray} (h : ltS a b = true) (k : ltS b c = true) : ltS a c = true :=
  decide_eq_true (List.lt_trans (of_decide_eq_true h) (of_decide_eq_true k))
theorem ltS_of_not {a b : ByteArray} (h : ¬ ltS a b = true) (hne : a ≠ b) : ltS b a = true := by
  unfold ltS at h ⊢
  rw [decide_eq_true_eq] at h ⊢
  have h1 : b.data.toList ≤ a.data.toList := List.not_lt.1 h
  rcases List.le_iff_lt_or_eq.1 h1 with h2 | h2
  · exact h2
  · refine absurd ?_ hne
    obtain ⟨⟨x⟩⟩ := a
    obtain ⟨⟨y⟩⟩ := b
    simp only at h2
    rw [h2]
def Srt (l : List Nm) : Prop := l.Pairwise fun x y => ltS x.1 y.1 = true
theorem Srt.nodup {l : List Nm} (h : Srt l) : (l.map Prod.fst).Nodup :=
  List.pairwise_map.2 (h.imp fun {x y} hxy e => by rw [e, ltS_irr] at hxy; cases hxy)
theorem Srt.del {l : List Nm} (h : Srt l) (k : ByteArray) : Srt (delN l k) := h.filter _
theorem mem_del {l : List Nm} {k : ByteArray} {p : Nm} : p ∈ delN l k ↔ p ∈ l ∧ p.1 ≠ k := by
  unfold delN
  rw [List.mem_filter, decide_eq_true_eq]
theorem insN_perm (n : Nm) : ∀ l : List Nm, (insN n l).Perm (n :: l)
  | [] => List.Perm.refl _
  | x :: r => by
    unfold insN
    split
    · exact List.Perm.refl _
    · exact ((insN_perm n r).cons x).trans (List.Perm.swap n x r)
theorem Srt.ins {n : Nm} : ∀ {l : List Nm}, Srt l → (∀ x ∈ l, x.1 ≠ n.1) → Srt (insN n l)
  | [], _, _ => List.pairwise_singleton _ _
  | x :: r, h, hne => by
    unfold insN
    obtain ⟨h1, h2⟩ := List.pairwise_cons.1 h
    split
    · rename_i hlt
      refine List.pairwise_cons.2 ⟨fun y hy => ?_, h⟩
      rcases List.mem_cons.1 hy with rfl | hy
      · exact hlt
      · exact ltS_trans hlt (h1 y hy)
    · rename_i hlt
      refine List.pairwise_cons.2 ⟨fun y hy => ?_, Srt.ins h2 fun y hy => hne y (List.mem_cons_of_mem _ hy)⟩
      rcases List.mem_cons.1 ((insN_perm n r).mem_iff.1 hy) with rfl | hy
      · exact ltS_of_not hlt fun e => hne x (List.mem_cons_self ..) e.symm
      · exact h1 y hy
theorem Srt.wi {l : List Nm} (h : Srt l) (n : Nm) : Srt (wiN l n) := (h.del n.1).ins fun x hx => (mem_del.1 hx).2
theorem Srt.do {l : List Nm} (h : Srt l) (c : Ch) : Srt (doN l c) := by
  have h1 : Srt (if c.1 = e0 then l else delN l c.1) := by split; exact h; exact h.del _
  unfold doN
  split
  · exact h1
  · exact h1.wi _
theorem Srt.dos {l : List Nm} (h : Srt l) : ∀ cs : List Ch, Srt (cs.foldl doN l)
  | [] => h
  | c :: cs => (h.do c).dos cs
/-! ### Looking up -/
theorem getN_some {l : List Nm} (hn : (l.map Prod.fst).Nodup) {k : ByteArray} {v : Nat} : getN l k = some v ↔ (k, v) ∈ l := by
  induction l with
  | nil => exact ⟨fun h => (by cases h), fun h => (by cases h)⟩
  | cons p l ih =>
    rw [List.map_cons, List.nodup_cons] at hn
    unfold getN at ih ⊢
    by_cases hp : p.1 = k
    · subst hp
      rw [List.find?_cons_of_pos (by simp), List.mem_cons]
      constructor
      · intro h
        refine .inl ?_
        injection h with h
        rw [← h]
      · rintro (h | h)
        · rw [← h]
          rfl
        · exact absurd (List.mem_map.2 ⟨_, h, rfl⟩) hn.1
    · rw [List.find?_cons_of_neg (by simpa using hp), ih hn.2, List.mem_cons]
      exact ⟨.inr, fun h => h.elim (fun e => absurd (by rw [← e]) hp) id⟩
theorem getN_none {l : List Nm} {k : ByteArray} : getN l k = none ↔ ∀ p ∈ l, p.1 ≠ k := by
  unfold getN
  rw [Option.map_eq_none_iff, List.find?_eq_none]
  simp
theorem getN_perm {L l : List Nm} (h : L.Perm l) (hn : (l.map Prod.fst).Nodup) (k : ByteArray) : getN L k = getN l k := by
  have hn' : (L.map Prod.fst).Nodup := (h.map Prod.fst).nodup_iff.2 hn
  refine Option.ext fun v => ?_
  rw [getN_some hn', getN_some hn, h.mem_iff]
theorem delN_perm {L l : List Nm} (h : L.Perm l) (k : ByteArray) : (delN L k).Perm (delN l k) := h.filter _
theorem map_ne {l : List Nm} {k : ByteArray} {v : Nat} (h : ∀ p ∈ l, p.1 ≠ k) : l.map (fun p => if p.1 = k then (k, v) else p) = l := by
  conv => rhs; rw [← List.map_id l]
  exact List.map_congr_left fun p hp => if_neg (h p hp)
theorem putN_perm0 : ∀ {L : List Nm} {k : ByteArray} {v : Nat}, (L.map Prod.fst).Nodup → (putN L k v).Perm ((k, v) :: delN L k) := by
  intro L k v hn
  unfold putN
  cases hg : getN L k with
  | none =>
    show (L ++ [(k, v)]).Perm _
    rw [delN_no (getN_none.1 hg)]
    exact List.perm_append_singleton _ _
  | some u =>
    show (L.map _).Perm _
    obtain ⟨a, b, rfl⟩ := List.append_of_mem ((getN_some hn).1 hg)
    rw [delN_at hn, List.map_append, List.map_cons, if_pos rfl]
    rw [List.map_append, List.map_cons, List.nodup_append, List.nodup_cons] at hn
    obtain ⟨_, ⟨h2, _⟩, h3⟩ := hn
    rw [map_ne fun p hp => h3 p.1 (List.mem_map.2 ⟨p, hp, rfl⟩) k (List.mem_cons_self ..), map_ne fun p hp e => h2 (by rw [← (show p.1 = k from e)]; exact List.mem_map.2 ⟨p, hp, rfl⟩)]
    exact List.perm_middle
theorem putN_perm {L l : List Nm} (h : L.Perm l) (hn : (l.map Prod.fst).Nodup) (n : Nm) : (putN L n.1 n.2).Perm (wiN l n) :=
  (putN_perm0 ((h.map Prod.fst).nodup_iff.2 hn)).trans (((delN_perm h n.1).cons n).trans (insN_perm n _).symm)
theorem doM_perm {L l : List Nm} (h : L.Perm l) (hs : Srt l) (c : Ch) : (doM L c).Perm (doN l c) := by
  have h1 : (if c.1 = e0 then L else delN L c.1).Perm (if c.1 = e0 then l else delN l c.1) := by split; exact h; exact delN_perm h _
  have h2 : Srt (if c.1 = e0 then l else delN l c.1) := by split; exact hs; exact hs.del _
  unfold doM doN
  split
  · exact h1
  · exact putN_perm h1 h2.nodup c.2
theorem delN_len (l : List Nm) (k : ByteArray) : (delN l k).length ≤ l.length := List.length_filter_le _ _
theorem wiN_len (l : List Nm) (n : Nm) : (wiN l n).length ≤ l.length + 1 := by
  have := (insN_perm n (delN l n.1)).length_eq
  have := delN_len l n.1
  unfold wiN
  simp only [List.length_cons] at *
  omega
theorem doN_len (l : List Nm) (c : Ch) : (doN l c).length ≤ l.length + 1 := by
  unfold doN
  have h1 : (if c.1 = e0 then l else delN l c.1).length ≤ l.length := by split; exact Nat.le_refl _; exact delN_len _ _
  have := wiN_len (if c.1 = e0 then l else delN l c.1) c.2
  split <;> omega
theorem dos_len : ∀ (cs : List Ch) (l : List Nm), (cs.foldl doN l).length ≤ l.length + cs.length
  | [], l => Nat.le_refl _
  | c :: cs, l => by
    have h1 := dos_len cs (doN l c)
    have h2 := doN_len l c
    show (cs.foldl doN (doN l c)).length ≤ _
    rw [List.length_cons]
    omega
theorem mem_wi {l : List Nm} {n p : Nm} : p ∈ wiN l n ↔ p = n ∨ (p ∈ l ∧ p.1 ≠ n.1) := by
  unfold wiN
  rw [(insN_perm n _).mem_iff, List.mem_cons, mem_del]
theorem mem_do {l : List Nm} {c : Ch} {p : Nm} (h : p ∈ doN l c) : p ∈ l ∨ (p = c.2 ∧ c.2.1 ≠ e0) := by
  have h1 : ∀ q, q ∈ (if c.1 = e0 then l else delN l c.1) → q ∈ l := by
    intro q hq
    split at hq
    · exact hq
    · exact (mem_del.1 hq).1
  unfold doN at h
  split at h
  · exact .inl (h1 p h)
  · rename_i hc
    rcases mem_wi.1 h with h | h
    · exact .inr ⟨h, hc⟩
    · exact .inl (h1 p h.1)
theorem mem_dos : ∀ {cs : List Ch} {l : List Nm} {p : Nm}, p ∈ cs.foldl doN l → p ∈ l ∨ ∃ c ∈ cs, p = c.2
  | [], l, p, h => .inl h
  | c :: cs, l, p, h => by
    rcases mem_dos (cs := cs) (l := doN l c) h with h1 | ⟨d, hd, e⟩
    · rcases mem_do h1 with h2 | h2
      · exact .inl h2
      · exact .inr ⟨c, List.mem_cons_self .., h2.1⟩
    · exact .inr ⟨d, List.mem_cons_of_mem _ hd, e⟩
/-! ### What a disk is -/
def bo0 : Bo := ([], 0)
structure WfD (D : Dk) (k : Nat) : Prop where
  srt : Srt D.sf
  nm : ∀ p ∈ D.sf, p.1.size ≤ 16
  nc : ∀ c ∈ D.ch, c.2.1.size ≤ 16
  sb : ∀ p ∈ D.sf, p.2 < D.bo.length
  cb : ∀ c ∈ D.ch, c.2.2 < D.bo.length
  bs : ∀ x ∈ D.bo, x.2 ≤ x.1.length ∧ x.1.length ≤ 4194304 ∧ True
  r0 : 1 ≤ D.room
  r1 : D.room ≤ 4194304
  n1 : D.bo.length ≤ k
  n2 : D.sf.length + D.ch.length ≤ k
  lf : D.stops = true → D.down = false → 1 ≤ D.left ∧ D.left ≤ 1000000
theorem WfD.mono {D : Dk} {k k' : Nat} (h : WfD D k) (hk : k ≤ k') : WfD D k' := ⟨h.srt, h.nm, h.nc, h.sb, h.cb, h.bs, h.r0, h.r1, Nat.le_trans h.n1 hk, Nat.le_trans h.n2 hk, h.lf⟩
theorem WfD.asrt {D : Dk} {k : Nat} (h : WfD D k) : Srt D.all := h.srt.dos _
theorem WfD.alen {D : Dk} {k : Nat} (h : WfD D k) : D.all.length ≤ k := Nat.le_trans (dos_len _ _) h.n2
theorem WfD.alt {D : Dk} {k : Nat} (h : WfD D k) : ∀ p ∈ D.all, p.2 < D.bo.length := fun p hp => by
  rcases mem_dos hp with h1 | ⟨c, hc, rfl⟩
  · exact h.sb p h1
  · exact h.cb c hc
theorem WfD.anm {D : Dk} {k : Nat} (h : WfD D k) : ∀ p ∈ D.all, p.1.size ≤ 16 := fun p hp => by
  rcases mem_dos hp with h1 | ⟨c, hc, rfl⟩
  · exact h.nm p h1
  · exact h.nc c hc
def Dk.find (D : Dk) (f : ByteArray) : Option Nat := getN D.all f
theorem WfD.find_lt {D : Dk} {k : Nat} (h : WfD D k) {f : ByteArray} {i : Nat} (hf : D.find f = some i) : i < D.bo.length := h.alt _ ((getN_some h.asrt.nodup).1 hf)
/-! ### What is done -/
def letB (c : UInt8) : Bool := decide (97 ≤ c.toNat ∧ c.toNat ≤ 122 ∨ 48 ≤ c.toNat ∧ c.toNat ≤ 57 ∨ c.toNat = 45)
def nameOk (s : ByteArray) : Bool := decide (1 ≤ s.size ∧ s.size ≤ 16) && s.data.toList.all letB
def Dk.step (D : Dk) : Dk := { D with left := if D.stops then D.left - 1 else D.left, down := if D.stops then decide (D.left - 1 ≤ 0) else D.down }
def Dk.chg (D : Dk) (c : Ch) : Dk := Dk.step { D with ch := D.ch ++ [c] }
def newD (room : Int) : Dk := ⟨room, [], [], [], false, false, 0⟩
def createE (D : Dk) (f : ByteArray) : Int := if D.down then 90 else if nameOk f = false then 91 else if D.find f = none ∧ 16 ≤ D.all.length then 92 else 0
def createD (D : Dk) (f : ByteArray) : Dk := if createE D f = 0 then Dk.chg { D with bo := D.bo ++ [bo0] } (e0, f, D.bo.length) else D
def Dk.used (D : Dk) : Nat := (D.all.map fun p => (D.bo.getD p.2 bo0).1.length).sum
def Dk.setB (D : Dk) (i : Nat) (x : Bo) : Dk := { D with bo := D.bo.set i x }
def appendE (D : Dk) (f : ByteArray) (b : List Int) : Int := if D.down then 90 else if D.find f = none then 91 else if D.room - D.used < b.length then 92 else 0
def appendD (D : Dk) (f : ByteArray) (b : List Int) : Dk := if appendE D f b = 0 then (match D.find f with
  | none => D
  | some i => (D.setB i ((D.bo.getD i bo0).1 ++ b, (D.bo.getD i bo0).2)).step) else D
def nameE (D : Dk) (f : ByteArray) : Int := if D.down then 90 else if D.find f = none then 91 else 0
def syncD (D : Dk) (f : ByteArray) : Dk := if nameE D f = 0 then (match D.find f with
  | none => D
  | some i => (D.setB i ((D.bo.getD i bo0).1, (D.bo.getD i bo0).1.length)).step) else D
def renameE (D : Dk) (f t : ByteArray) : Int := if D.down then 90 else if D.find f = none then 91 else if nameOk t = false then 91 else 0
def renameD (D : Dk) (f t : ByteArray) : Dk := if renameE D f t = 0 then (match D.find f with
  | none => D
  | some i => D.chg (f, t, i)) else D
def removeD (D : Dk) (f : ByteArray) : Dk := if nameE D f = 0 then D.chg (f, e0, 0) else D
def namesE (D : Dk) : Int := if D.down then 90 else 0
def namesD (D : Dk) : Dk := if D.down then D else Dk.step { D with sf := D.all, ch := [] }
def readE (D : Dk) (f : ByteArray) : Int := if D.find f = none then 91 else 0
def readB (D : Dk) (f : ByteArray) : List Int := match D.find f with
  | none => []
  | some i => (D.bo.getD i bo0).1
def stopE (D : Dk) (n : Int) : Int := if D.down then 90 else if n < 0 ∨ 1000000 < n then 1 else 0
def stopD (D : Dk) (n : Int) : Dk := if stopE D n = 0 then { D with stops := true, left := n, down := decide (n = 0) } else D
/-- What is left of a body: its safe bytes, and some more; of these the last one has noise. -/
def xorL (l : List Int) (z : Int) : List Int := l.set (l.length - 1) (bits2 .xor .u8 (l.getD (l.length - 1) 0) z)
def tailK (x : Bo) (tails : List Int) (i : Nat) : Nat := if i < tails.length then (min (max (tails.getD i 0) 0) (x.1.length - x.2 : Nat)).toNat else 0
def leftB (x : Bo) (k : Nat) (z : Int) : List Int := if k = 0 then x.1.take x.2 else xorL (x.1.take (x.2 + k)) z
def crashS (D : Dk) (n : Int) : List Nm := (D.ch.take (min (max n 0) D.ch.length).toNat).foldl doN D.sf
def crashB (D : Dk) (tails : List Int) (z : Int) (l : List Nm) (i : Nat) : Bo := (fun b => (b, b.length)) (leftB (D.bo.getD (l.getD i (e0, 0)).2 bo0) (tailK (D.bo.getD (l.getD i (e0, 0)).2 bo0) tails i) z)
def crashD (D : Dk) (n : Int) (tails : List Int) (z : Int) : Dk :=
  { D with bo := (List.range (crashS D n).length).map (crashB D tails z (crashS D n)), sf := (crashS D n).zipIdx.map (fun p => (p.1.1, p.2)), ch := [], down := false, stops := false }
/-! ### What is done stays well formed -/
theorem WfD.step {D : Dk} {k : Nat} (h : WfD D k) (hd : D.down = false) : WfD D.step k := by
  refine ⟨h.srt, h.nm, h.nc, h.sb, h.cb, h.bs, h.r0, h.r1, h.n1, h.n2, fun hs h9 => ?_⟩
  have hs : D.stops = true := hs
  have h8 := h.lf hs hd
  have h9 : (if D.stops then decide (D.left - 1 ≤ 0) else D.down) = false := h9
  rw [hs, if_pos rfl] at h9
  have h7 : ¬ D.left - 1 ≤ 0 := of_decide_eq_false h9
  show 1 ≤ (if D.stops then D.left - 1 else D.left) ∧ (if D.stops then D.left - 1 else D.left) ≤ 1000000
  rw [hs, if_pos rfl]
  omega
theorem step_all (D : Dk) : D.step.all = D.all := rfl
theorem step_bo (D : Dk) : D.step.bo = D.bo := rfl
theorem step_sf (D : Dk) : D.step.sf = D.sf := rfl
theorem step_ch (D : Dk) : D.step.ch = D.ch := rfl
theorem step_room (D : Dk) : D.step.room = D.room := rfl
theorem chg_all (D : Dk) (c : Ch) : (D.chg c).all = doN D.all c := by
  unfold Dk.chg
  rw [step_all]
  show (D.ch ++ [c]).foldl doN D.sf = _
  rw [List.foldl_append]
  rfl
theorem WfD.chg {D : Dk} {k : Nat} (h : WfD D k) (hd : D.down = false) {c : Ch} (hc : c.2.1.size ≤ 16) (hb : c.2.2 < D.bo.length) : WfD (D.chg c) (k + 1) := by
  have h1 : WfD { D with ch := D.ch ++ [c] } (k + 1) := by
    refine ⟨h.srt, h.nm, fun d hd => ?_, h.sb, fun d hd => ?_, h.bs, h.r0, h.r1, Nat.le_succ_of_le h.n1, ?_, h.lf⟩
    · rcases List.mem_append.1 hd with h2 | h2
      · exact h.nc d h2
      · obtain rfl := List.mem_singleton.1 h2
        exact hc
    · rcases List.mem_append.1 hd with h2 | h2
      · exact h.cb d h2
      · obtain rfl := List.mem_singleton.1 h2
        exact hb
    · have := h.n2
      show D.sf.length + (D.ch ++ [c]).length ≤ k + 1
      rw [List.length_append, List.length_singleton]
      omega
  exact h1.step hd
theorem down_of {D : Dk} {x y : Int} (hx : x ≠ 0) (h : (if D.down then x else y) = 0) : D.down = false := by
  cases hd : D.down with
  | false => rfl
  | true => rw [hd] at h; exact absurd h hx
theorem WfD.addB {D : Dk} {k : Nat} (h : WfD D k) : WfD { D with bo := D.bo ++ [bo0] } (k + 1) := by
  have hl : (D.bo ++ [bo0]).length = D.bo.length + 1 := by rw [List.length_append]; rfl
  refine ⟨h.srt, h.nm, h.nc, fun p hp => ?_, fun c hc => ?_, fun x hx => ?_, h.r0, h.r1, ?_, Nat.le_succ_of_le h.n2, h.lf⟩
  · show _ < (D.bo ++ [bo0]).length
    have := h.sb p hp
    omega
  · show _ < (D.bo ++ [bo0]).length
    have := h.cb c hc
    omega
  · rcases List.mem_append.1 hx with h2 | h2
    · exact h.bs x h2
    · obtain rfl := List.mem_singleton.1 h2
      exact ⟨Nat.le_refl _, by decide, trivial⟩
  · show (D.bo ++ [bo0]).length ≤ k + 1
    have := h.n1
    omega
theorem nameOk_size {f : ByteArray} (h : nameOk f = true) : 1 ≤ f.size ∧ f.size ≤ 16 := by
  unfold nameOk at h
  rw [Bool.and_eq_true, decide_eq_true_eq] at h
  exact h.1
theorem createE_0 {D : Dk} {f : ByteArray} (h : createE D f = 0) : D.down = false ∧ nameOk f = true ∧ ¬ (D.find f = none ∧ 16 ≤ D.all.length) := by
  unfold createE at h
  split at h
  · cases h
  · rename_i h1
    split at h
    · cases h
    · rename_i h2
      split at h
      · cases h
      · rename_i h3
        exact ⟨by simpa using h1, by simpa using h2, h3⟩
theorem WfD.create {D : Dk} {k : Nat} (h : WfD D k) (f : ByteArray) : WfD (createD D f) (k + 1) := by
  unfold createD
  split
  · rename_i h1
    obtain ⟨h2, h3, h4⟩ := createE_0 h1
    have ha := h.addB
    have h5 : WfD { D with bo := D.bo ++ [bo0], ch := D.ch ++ [(e0, f, D.bo.length)] } (k + 1) := by
      have hl : (D.bo ++ [bo0]).length = D.bo.length + 1 := by rw [List.length_append]; rfl
      refine ⟨ha.srt, ha.nm, fun d hd => ?_, ha.sb, fun d hd => ?_, ha.bs, ha.r0, ha.r1, ha.n1, ?_, ha.lf⟩
      · rcases List.mem_append.1 hd with h6 | h6
        · exact ha.nc d h6
        · obtain rfl := List.mem_singleton.1 h6
          exact (nameOk_size h3).2
      · rcases List.mem_append.1 hd with h6 | h6
        · exact ha.cb d h6
        · obtain rfl := List.mem_singleton.1 h6
          show D.bo.length < (D.bo ++ [bo0]).length
          omega
      · have := h.n2
        show D.sf.length + (D.ch ++ [_]).length ≤ k + 1
        rw [List.length_append, List.length_singleton]
        omega
    exact h5.step h2
  · exact h.mono (Nat.le_succ k)
theorem used_le {D : Dk} {f : ByteArray} {i : Nat} (hn : (D.all.map Prod.fst).Nodup) (hf : D.find f = some i) : (D.bo.getD i bo0).1.length ≤ D.used := by
  have hm := (getN_some hn).1 hf
  obtain ⟨a, b, e⟩ := List.append_of_mem hm
  unfold Dk.used
  rw [e, List.map_append, List.map_cons, List.sum_append, List.sum_cons]
  show (D.bo.getD i bo0).1.length ≤ _ + ((D.bo.getD i bo0).1.length + _)
  omega
theorem WfD.setB {D : Dk} {k : Nat} (h : WfD D k) (i : Nat) {x : Bo} (hx : x.2 ≤ x.1.length ∧ x.1.length ≤ 4194304 ∧ True) : WfD (D.setB i x) k := by
  have hl : (D.bo.set i x).length = D.bo.length := List.length_set
  refine ⟨h.srt, h.nm, h.nc, fun p hp => ?_, fun c hc => ?_, fun y hy => ?_, h.r0, h.r1, ?_, h.n2, h.lf⟩
  · show _ < (D.bo.set i x).length
    rw [hl]
    exact h.sb p hp
  · show _ < (D.bo.set i x).length
    rw [hl]
    exact h.cb c hc
  · rcases List.mem_or_eq_of_mem_set hy with h2 | rfl
    · exact h.bs y h2
    · exact hx
  · show (D.bo.set i x).length ≤ k
    rw [hl]
    exact h.n1
theorem WfD.bod {D : Dk} {k : Nat} (h : WfD D k) (i : Nat) : (D.bo.getD i bo0).2 ≤ (D.bo.getD i bo0).1.length ∧ (D.bo.getD i bo0).1.length ≤ 4194304 ∧ True := by
  by_cases hi : i < D.bo.length
  · exact h.bs _ (by rw [List.getD_eq_getElem?_getD, List.getElem?_eq_getElem hi]; exact List.getElem_mem hi)
  · rw [List.getD_eq_getElem?_getD, List.getElem?_eq_none (by omega)]
    exact ⟨Nat.le_refl _, by decide, trivial⟩
theorem appendE_0 {D : Dk} {f : ByteArray} {b : List Int} (h : appendE D f b = 0) : D.down = false ∧ (∃ i, D.find f = some i) ∧ (b.length : Int) ≤ D.room - D.used := by
  unfold appendE at h
  split at h
  · cases h
  · rename_i h1
    split at h
    · cases h
    · rename_i h2
      split at h
      · cases h
      · rename_i h3
        refine ⟨by simpa using h1, ?_, by omega⟩
        cases hf : D.find f with
        | none => exact absurd hf h2
        | some i => exact ⟨i, rfl⟩
theorem nameE_0 {D : Dk} {f : ByteArray} (h : nameE D f = 0) : D.down = false ∧ ∃ i, D.find f = some i := by
  unfold nameE at h
  split at h
  · cases h
  · rename_i h1
    split at h
    · cases h
    · rename_i h2
      refine ⟨by simpa using h1, ?_⟩
      cases hf : D.find f with
      | none => exact absurd hf h2
      | some i => exact ⟨i, rfl⟩
theorem renameE_0 {D : Dk} {f t : ByteArray} (h : renameE D f t = 0) : D.down = false ∧ (∃ i, D.find f = some i) ∧ nameOk t = true := by
  unfold renameE at h
  split at h
  · cases h
  · rename_i h1
    split at h
    · cases h
    · rename_i h2
      split at h
      · cases h
      · rename_i h3
        refine ⟨by simpa using h1, ?_, by simpa using h3⟩
        cases hf : D.find f with
        | none => exact absurd hf h2
        | some i => exact ⟨i, rfl⟩
theorem WfD.append {D : Dk} {k : Nat} (h : WfD D k) (f : ByteArray) (b : List Int) : WfD (appendD D f b) k := by
  unfold appendD
  split
  · rename_i h1
    obtain ⟨h2, ⟨i, hi⟩, h3⟩ := appendE_0 h1
    rw [hi]
    have h4 := used_le h.asrt.nodup hi
    have h5 := h.bod i
    have h6 := h.r1
    refine (h.setB i (x := ((D.bo.getD i bo0).1 ++ b, (D.bo.getD i bo0).2)) ⟨?_, ?_, trivial⟩).step h2
    · show _ ≤ (_ ++ b).length
      rw [List.length_append]
      omega
    · show (_ ++ b).length ≤ _
      rw [List.length_append]
      omega
  · exact h
theorem WfD.sync {D : Dk} {k : Nat} (h : WfD D k) (f : ByteArray) : WfD (syncD D f) k := by
  unfold syncD
  split
  · rename_i h1
    obtain ⟨h2, i, hi⟩ := nameE_0 h1
    rw [hi]
    have h5 := h.bod i
    exact (h.setB i (x := ((D.bo.getD i bo0).1, (D.bo.getD i bo0).1.length)) ⟨Nat.le_refl _, h5.2⟩).step h2
  · exact h
theorem WfD.rename {D : Dk} {k : Nat} (h : WfD D k) (f t : ByteArray) : WfD (renameD D f t) (k + 1) := by
  unfold renameD
  split
  · rename_i h1
    obtain ⟨h2, ⟨i, hi⟩, h3⟩ := renameE_0 h1
    rw [hi]
    exact h.chg h2 (nameOk_size h3).2 (h.find_lt hi)
  · exact h.mono (Nat.le_succ k)
theorem WfD.remove {D : Dk} {k : Nat} (h : WfD D k) (f : ByteArray) : WfD (removeD D f) (k + 1) := by
  unfold removeD
  split
  · rename_i h1
    obtain ⟨h2, i, hi⟩ := nameE_0 h1
    exact h.chg h2 (show e0.size ≤ 16 by decide) (Nat.lt_of_le_of_lt (Nat.zero_le _) (h.find_lt hi))
  · exact h.mono (Nat.le_succ k)
theorem WfD.names {D : Dk} {k : Nat} (h : WfD D k) : WfD (namesD D) k := by
  unfold namesD
  split
  · exact h
  · rename_i h1
    have h2 : WfD { D with sf := D.all, ch := [] } k := ⟨h.asrt, h.anm, fun c hc => (by cases hc), h.alt, fun c hc => (by cases hc), h.bs, h.r0, h.r1, h.n1, h.alen, h.lf⟩
    exact h2.step (by simpa using h1)
theorem WfD.stop {D : Dk} {k : Nat} (h : WfD D k) (n : Int) : WfD (stopD D n) k := by
  unfold stopD
  split
  · rename_i h1
    refine ⟨h.srt, h.nm, h.nc, h.sb, h.cb, h.bs, h.r0, h.r1, h.n1, h.n2, fun _ h9 => ?_⟩
    unfold stopE at h1
    split at h1
    · cases h1
    · split at h1
      · cases h1
      · have h8 : ¬ n = 0 := of_decide_eq_false h9
        show 1 ≤ n ∧ n ≤ 1000000
        omega
  · exact h
theorem WfD.new {room : Int} (h : 1 ≤ room ∧ room ≤ 4194304) : WfD (newD room) 0 :=
  ⟨List.Pairwise.nil, fun p hp => (by cases hp), fun p hp => (by cases hp), fun p hp => (by cases hp), fun p hp => (by cases hp), fun p hp => (by cases hp), h.1, h.2, Nat.le_refl _, Nat.le_refl _, fun h => (by cases h)⟩
theorem xorL_len (l : List Int) (z : Int) : (xorL l z).length = l.length := List.length_set
theorem leftB_len (x : Bo) (k : Nat) (z : Int) (h : x.2 + k ≤ x.1.length) : (leftB x k z).length = x.2 + k := by
  unfold leftB
  split
  · rename_i h1
    rw [List.length_take]
    omega
  · rw [xorL_len, List.length_take]
    omega
theorem tailK_le (x : Bo) (tails : List Int) (i : Nat) (h : x.2 ≤ x.1.length) : x.2 + tailK x tails i ≤ x.1.length := by
  unfold tailK
  split <;> omega
theorem WfD.csrt {D : Dk} {k : Nat} (h : WfD D k) (n : Int) : Srt (crashS D n) := h.srt.dos _
theorem WfD.clen {D : Dk} {k : Nat} (h : WfD D k) (n : Int) : (crashS D n).length ≤ k := by
  have h1 := dos_len (D.ch.take (min (max n 0) D.ch.length).toNat) D.sf
  have h2 := h.n2
  rw [List.length_take] at h1
  unfold crashS
  omega
theorem WfD.clt {D : Dk} {k : Nat} (h : WfD D k) (n : Int) : ∀ p ∈ crashS D n, p.2 < D.bo.length := fun p hp => by
  rcases mem_dos hp with h1 | ⟨c, hc, rfl⟩
  · exact h.sb p h1
  · exact h.cb c (List.mem_of_mem_take hc)
theorem WfD.cnm {D : Dk} {k : Nat} (h : WfD D k) (n : Int) : ∀ p ∈ crashS D n, p.1.size ≤ 16 := fun p hp => by
  rcases mem_dos hp with h1 | ⟨c, hc, rfl⟩
  · exact h.nm p h1
  · exact h.nc c (List.mem_of_mem_take hc)
theorem zip_fst (l : List Nm) : (l.zipIdx.map fun p => ((p.1.1, p.2) : Nm)).map Prod.fst = l.map Prod.fst := by
  rw [List.map_map]
  have e : (Prod.fst ∘ fun (p : Nm × Nat) => ((p.1.1, p.2) : Nm)) = (fun p => p.1.1) := rfl
  rw [e, show (fun (p : Nm × Nat) => p.1.1) = Prod.fst ∘ Prod.fst from rfl, ← List.map_map, List.zipIdx_map_fst]
theorem Srt.of_keys {l l' : List Nm} (h : Srt l) (e : l'.map Prod.fst = l.map Prod.fst) : Srt l' := by
  have h1 : (l.map Prod.fst).Pairwise fun x y => ltS x y = true := List.pairwise_map.2 h
  rw [← e] at h1
  exact List.pairwise_map.1 h1
theorem WfD.crash {D : Dk} {k : Nat} (h : WfD D k) (n : Int) (tails : List Int) (z : Int) : WfD (crashD D n tails z) k := by
  have hl : (crashD D n tails z).bo.length = (crashS D n).length := by show ((List.range _).map _).length = _; rw [List.length_map, List.length_range]
  have hs : (crashD D n tails z).sf.length = (crashS D n).length := by show (List.map _ _).length = _; rw [List.length_map, List.length_zipIdx]
  refine ⟨(h.csrt n).of_keys (zip_fst _), fun p hp => ?_, fun c hc => (by cases hc), fun p hp => ?_, fun c hc => (by cases hc), fun x hx => ?_, h.r0, h.r1, ?_, ?_, fun h => (by cases h)⟩
  · obtain ⟨q, hq, rfl⟩ := List.mem_map.1 hp
    exact h.cnm n q.1 (List.fst_mem_of_mem_zipIdx hq)
  · obtain ⟨q, hq, rfl⟩ := List.mem_map.1 hp
    rw [hl]
    have := List.snd_lt_of_mem_zipIdx hq
    simpa using this
  · obtain ⟨i, hi, rfl⟩ := List.mem_map.1 hx
    have h1 := h.bod ((crashS D n).getD i (e0, 0)).2
    have h2 := tailK_le (D.bo.getD ((crashS D n).getD i (e0, 0)).2 bo0) tails i h1.1
    refine ⟨Nat.le_refl _, ?_, trivial⟩
    show (leftB _ _ _).length ≤ _
    rw [leftB_len _ _ _ h2]
    omega
  · rw [hl]
    exact h.clen n
  · show (crashD D n tails z).sf.length + 0 ≤ k
    rw [hs]
    exact h.clen n
/-! ### What a crash does, name by name -/
def sfI (S : List Nm) (i : Nat) : List Nm := ((S.take i).zipIdx.map fun p => (p.1.1, p.2)) ++ S.drop i
theorem sfI_0 (S : List Nm) : sfI S 0 = S := by
  unfold sfI
  rw [List.take_zero, List.drop_zero]
  rfl
theorem sfI_end (S : List Nm) : sfI S S.length = S.zipIdx.map fun p => (p.1.1, p.2) := by
  unfold sfI
  rw [List.take_length, List.drop_length, List.append_nil]
theorem sfI_keys (S : List Nm) (i : Nat) : (sfI S i).map Prod.fst = S.map Prod.fst := by
  unfold sfI
  rw [List.map_append, zip_fst, ← List.map_append, List.take_append_drop]
theorem sfI_at {S : List Nm} {i : Nat} (h : i < S.length) : sfI S i = ((S.take i).zipIdx.map fun p => (p.1.1, p.2)) ++ S.getD i (e0, 0) :: S.drop (i + 1) := by
  unfold sfI
  rw [List.drop_eq_getElem_cons h, List.getD_eq_getElem?_getD, List.getElem?_eq_getElem h]
  rfl
theorem sfI_next {S : List Nm} {i : Nat} (h : i < S.length) : sfI S (i + 1) = ((S.take i).zipIdx.map fun p => (p.1.1, p.2)) ++ ((S.getD i (e0, 0)).1, i) :: S.drop (i + 1) := by
  unfold sfI
  rw [show S.take (i + 1) = S.take i ++ [S.getD i (e0, 0)] from by rw [List.take_add_one, List.getD_eq_getElem?_getD, List.getElem?_eq_getElem h]; rfl, List.zipIdx_append, List.map_append, List.append_assoc, List.length_take, Nat.min_eq_left (Nat.le_of_lt h)]
  show _ ++ ([((S.getD i (e0, 0)).1, 0 + i)] ++ _) = _
  rw [Nat.zero_add]
  rfl
theorem sfI_nd {S : List Nm} (hs : Srt S) (i : Nat) : ((sfI S i).map Prod.fst).Nodup := by
  rw [sfI_keys]
  exact hs.nodup
theorem sfI_get {S ls : List Nm} {i : Nat} (hs : Srt S) (hp : ls.Perm (sfI S i)) (h : i < S.length) : (getN ls (S.getD i (e0, 0)).1).getD 0 = (S.getD i (e0, 0)).2 := by
  have h1 : getN (sfI S i) (S.getD i (e0, 0)).1 = some (S.getD i (e0, 0)).2 := (getN_some (sfI_nd hs i)).2 (by rw [sfI_at h]; exact List.mem_append_right _ (List.mem_cons_self ..))
  rw [getN_perm hp (sfI_nd hs i), h1]
  rfl
theorem sfI_put {S ls : List Nm} {i : Nat} (hs : Srt S) (hp : ls.Perm (sfI S i)) (h : i < S.length) : (putN ls (S.getD i (e0, 0)).1 i).Perm (sfI S (i + 1)) := by
  have hn : (ls.map Prod.fst).Nodup := (hp.map _).nodup_iff.2 (sfI_nd hs i)
  refine (putN_perm0 hn).trans (((delN_perm hp _).cons _).trans ?_)
  have h1 := sfI_nd hs i
  rw [sfI_at h] at h1 ⊢
  have h2 := delN_at (k := (S.getD i (e0, 0)).1) (v := (S.getD i (e0, 0)).2) h1
  rw [show delN (((S.take i).zipIdx.map fun p => (p.1.1, p.2)) ++ S.getD i (e0, 0) :: S.drop (i + 1)) (S.getD i (e0, 0)).1 = _ from h2, sfI_next h]
  exact List.perm_middle.symm
theorem crashS_take (D : Dk) (i : Nat) (h : i < D.ch.length) : (D.ch.take (i + 1)).foldl doN D.sf = doN ((D.ch.take i).foldl doN D.sf) (D.ch.getD i (e0, e0, 0)) := by
  rw [show D.ch.take (i + 1) = D.ch.take i ++ [D.ch.getD i (e0, e0, 0)] from by rw [List.take_add_one, List.getD_eq_getElem?_getD, List.getElem?_eq_getElem h]; rfl, List.foldl_append]
  rfl
theorem leftB_0 (x : Bo) {k : Nat} (z : Int) (h : k = 0) : leftB x k z = x.1.take (x.2 + k) := by
  subst h
  exact if_pos rfl
theorem leftB_1 (x : Bo) {k : Nat} (z : Int) (h : k ≠ 0) : leftB x k z = xorL (x.1.take (x.2 + k)) z := if_neg h
theorem dg_xor (l : List Int) (z : Int) : (dg l).set (l.length - 1) (.int .u8 (bits2 .xor .u8 (l.getD (l.length - 1) 0) z)) = dg (xorL l z) := by
  show (l.map _).set _ _ = (l.set _ _).map _
  rw [List.map_set]
theorem tailK_T {x : Bo} {tl : List Int} {i : Nat} (h : i < tl.length) : tailK x tl i = (min (max (tl.getD i 0) 0) (x.1.length - x.2 : Nat)).toNat := if_pos h
theorem tailK_F {x : Bo} {tl : List Int} {i : Nat} (h : ¬ i < tl.length) : tailK x tl i = 0 := if_neg h
end Go.Sx
