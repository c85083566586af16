/- The disk's small parts. -/
import Derived.Test.YtcbpgnjlbbjieaaDoorSx21
import Derived.Test.YtcbpgnjlbbjieaaDoorDiskPure
import Derived.Test.YtcbpgnjlbbjieaaDoorDiskLib
set_option linter.unusedVariables false
set_option linter.unusedSimpArgs false
set_option maxRecDepth 100000
namespace Go.Proofs.YtcbpgnjlbbjieaaDoor
open Go.Sx
/-- Where a disk lies: its maps, its rows, the rows of its bodies' bytes. -/
structure DkH where
  mn : Nat
  en : Array MapEntry
  cn : Nat
  ln : List Nm
  ms : Nat
  es : Array MapEntry
  cs : Nat
  ls : List Nm
  qb : OwnP
  qc : OwnP
  bs : List (Bo × OwnP)
abbrev chV (c : Ch) : List Value := [.string c.1, .string c.2.1, .int .i64 c.2.2]
abbrev boV (x : Bo × OwnP) : List Value := [pV x.2 x.1.1.length, .int .i64 x.1.2]
abbrev chR (l : List Ch) : List Value := (l.map chV).flatten
abbrev boR (l : List (Bo × OwnP)) : List Value := (l.map boV).flatten
abbrev bytM (l : List (Bo × OwnP)) : Mem := (l.map fun x => pM 5 x.2 (dg x.1.1)).flatten
abbrev dkT (room : Int) (bo nm sf ch : Value) (down stops : Bool) (left : Int) : List Value := [.int .i64 room, bo, nm, sf, ch, .bool down, .bool stops, .int .i64 left]
abbrev dkC (D : Dk) (H : DkH) : List Value := dkT D.room (pV H.qb H.bs.length) (.map (some H.mn)) (.map (some H.ms)) (pV H.qc D.ch.length) D.down D.stops D.left
abbrev dkR (D : Dk) (H : DkH) : Mem := pM 68 H.qc (chR D.ch) ++ (pM 65 H.qb (boR H.bs) ++ bytM H.bs)
abbrev dkM (b0 : Nat) (D : Dk) (H : DkH) : Mem := (b0, row 61 (dkC D H)) :: (H.mn, .map H.en H.cn) :: (H.ms, .map H.es H.cs) :: dkR D H
structure Good (D : Dk) (H : DkH) : Prop where
  n : MapIs H.en H.cn H.ln
  np : H.ln.Perm D.all
  s : MapIs H.es H.cs H.ls
  sp : H.ls.Perm D.sf
  c : PC 3 H.qc D.ch.length (chR D.ch)
  b : PC 2 H.qb H.bs.length (boR H.bs)
  l : H.bs.map Prod.fst = D.bo
  q : ∀ x ∈ H.bs, PC 1 x.2 x.1.1.length (dg x.1.1)
/-- What a call comes to that turns the disk into that one. -/
def DkP (b0 : Nat) (D : Dk) (H : DkH) (w : World) (D' : Dk) (v : Value) : Ending → World → Prop := fun e w' => ∃ H', e = .returned v ∧ Good D' H' ∧ Upd (dkM b0 D H) w w' (dkM b0 D' H') []
theorem DkP.stay {b0 : Nat} {D D' : Dk} {H : DkH} {w w' : World} {v : Value} (hM : MemAt w (dkM b0 D H)) (hG : Good D H) (hfr : Fr [] w w') (e : D' = D) : DkP b0 D H w D' v (.returned v) w' := by
  subst e
  exact ⟨H, rfl, hG, Upd.none hM hfr⟩
theorem bs_len {D : Dk} {H : DkH} (h : Good D H) : H.bs.length = D.bo.length := by
  have := congrArg List.length h.l
  simpa using this
def ofV (D : Dk) (f : ByteArray) : Int := if nameE D f = 0 then (((D.find f).getD 0 : Nat) : Int) else 0
theorem bs_get {D : Dk} {H : DkH} (h : Good D H) {i : Nat} (hi : i < D.bo.length) : ∃ q, H.bs[i]? = some (D.bo.getD i bo0, q) := by
  have hi2 : i < H.bs.length := by rw [bs_len h]; exact hi
  refine ⟨(H.bs[i]).2, ?_⟩
  rw [List.getElem?_eq_getElem hi2]
  have : (H.bs.map Prod.fst)[i]? = D.bo[i]? := by rw [h.l]
  rw [List.getElem?_map, List.getElem?_eq_getElem hi2, List.getElem?_eq_getElem hi, Option.map_some, Option.some.injEq] at this
  rw [List.getD_eq_getElem?_getD, List.getElem?_eq_getElem hi, Option.getD_some, ← this]
theorem boR_len (l : List (Bo × OwnP)) : (boR l).length = l.length * 2 := by
  induction l with
  | nil => rfl
  | cons x l ih =>
    show (boV x ++ boR l).length = _
    rw [List.length_append, ih]
    show 2 + l.length * 2 = (l.length + 1) * 2
    omega
theorem boR_app (l m : List (Bo × OwnP)) : boR (l ++ m) = boR l ++ boR m := by
  show ((l ++ m).map boV).flatten = _
  rw [List.map_append, List.flatten_append]
theorem chR_app (l m : List Ch) : chR (l ++ m) = chR l ++ chR m := by
  show ((l ++ m).map chV).flatten = _
  rw [List.map_append, List.flatten_append]
theorem bytM_app (l m : List (Bo × OwnP)) : bytM (l ++ m) = bytM l ++ bytM m := by
  show ((l ++ m).map _).flatten = _
  rw [List.map_append, List.flatten_append]
theorem boR_at {l : List (Bo × OwnP)} {i : Nat} {x : Bo × OwnP} (h : l[i]? = some x) (k : Nat) (hk : k < 2) : (boR l)[i * 2 + k]? = (boV x)[k]? := by
  induction l generalizing i with
  | nil => cases h
  | cons y l ih =>
    show (boV y ++ boR l)[i * 2 + k]? = _
    cases i with
    | zero =>
      obtain rfl : y = x := by simpa using h
      rw [List.getElem?_append_left (by show _ < 2; omega)]
      congr 1
      omega
    | succ i =>
      rw [List.getElem?_append_right (by show 2 ≤ _; omega)]
      have := ih (i := i) (by simpa using h)
      rw [← this]
      congr 1
      show (i + 1) * 2 + k - 2 = _
      omega
theorem boR_set {l : List (Bo × OwnP)} {i : Nat} {x : Bo × OwnP} (h : l[i]? = some x) {y : Bo × OwnP} {k : Nat} {v : Value} (hk : k < 2) (hy : boV y = (boV x).set k v) : (boR l).set (i * 2 + k) v = boR (l.set i y) := by
  induction l generalizing i with
  | nil => cases h
  | cons z l ih =>
    show (boV z ++ boR l).set (i * 2 + k) v = _
    cases i with
    | zero =>
      obtain rfl : z = x := by simpa using h
      rw [List.set_append_left _ _ (by show _ < 2; omega), show 0 * 2 + k = k by omega, ← hy]
      rfl
    | succ i =>
      rw [List.set_append_right _ _ (by show 2 ≤ _; omega)]
      have := ih (i := i) (by simpa using h)
      show boV z ++ (boR l).set ((i + 1) * 2 + k - 2) v = boV z ++ boR (l.set i y)
      rw [← this]
      congr 2
      omega
/-- One body's bytes, and those ahead and behind. -/
theorem bytM_split {l : List (Bo × OwnP)} {i : Nat} {x : Bo × OwnP} (h : l[i]? = some x) : bytM l = bytM (l.take i) ++ (pM 5 x.2 (dg x.1.1) ++ bytM (l.drop (i + 1))) := by
  have hi := (List.getElem?_eq_some_iff.1 h).1
  have e : l = l.take i ++ x :: l.drop (i + 1) := by
    rw [← (List.getElem?_eq_some_iff.1 h).2, ← List.drop_eq_getElem_cons hi, List.take_append_drop]
  conv => lhs; rw [e]
  rw [bytM_app]
  rfl
theorem bytM_set {l : List (Bo × OwnP)} {i : Nat} {y : Bo × OwnP} (hi : i < l.length) : bytM (l.set i y) = bytM (l.take i) ++ (pM 5 y.2 (dg y.1.1) ++ bytM (l.drop (i + 1))) := by
  have h : (l.set i y)[i]? = some y := by simp [hi]
  rw [bytM_split h, List.take_set_of_le (Nat.le_refl _), List.drop_set_of_lt (Nat.lt_succ_self _)]
theorem Good.find {D : Dk} {H : DkH} (h : Good D H) (f : ByteArray) : getN H.ln f = D.find f := getN_perm h.np ((h.np.map _).nodup_iff.1 h.n.keys) f
theorem Good.alen {D : Dk} {H : DkH} (h : Good D H) : H.ln.length = D.all.length := h.np.length_eq
theorem rdy_T {d : Bool} (h : (if d then (90 : Int) else 0) ≠ 0) : d = true := by
  cases d with
  | true => rfl
  | false => exact absurd rfl h
theorem rdy_F {d : Bool} (h : ¬ (if d then (90 : Int) else 0) ≠ 0) : d = false := by
  cases d with
  | true => exact absurd (by decide) h
  | false => rfl
theorem isS_T {o : Option Nat} (h : (!o.isSome) = true) : o = none := by
  cases o with
  | none => rfl
  | some x => cases h
theorem isS_F {o : Option Nat} (h : (!o.isSome) = false) : ∃ x, o = some x := by
  cases o with
  | none => cases h
  | some x => exact ⟨x, rfl⟩
theorem nameE_1 {D : Dk} {f : ByteArray} (h : D.down = true) : nameE D f = 90 := by
  unfold nameE
  rw [h, if_pos rfl]
theorem nameE_2 {D : Dk} {f : ByteArray} (h : D.down = false) (k : D.find f = none) : nameE D f = 91 := by
  unfold nameE
  rw [h, if_neg (by decide), if_pos k]
theorem nameE_3 {D : Dk} {f : ByteArray} {i : Nat} (h : D.down = false) (k : D.find f = some i) : nameE D f = 0 := by
  unfold nameE
  rw [h, if_neg (by decide), if_neg (by rw [k]; intro h; cases h)]
theorem ofV_0 {D : Dk} {f : ByteArray} (h : nameE D f ≠ 0) : ofV D f = 0 := if_neg h
theorem ofV_3 {D : Dk} {f : ByteArray} {i : Nat} (h : D.down = false) (k : D.find f = some i) : ofV D f = i := by
  unfold ofV
  rw [if_pos (nameE_3 h k), k]
  rfl
theorem chg_M (b : Nat) (D : Dk) (H : DkH) (c : Ch) (en : Array MapEntry) (cn : Nat) (ln : List Nm) (q : OwnP) : dkM b { D with ch := D.ch ++ [c] } { H with en := en, cn := cn, ln := ln, qc := q } =
    (b, row 61 (dkT D.room (pV H.qb H.bs.length) (.map (some H.mn)) (.map (some H.ms)) (pV q (D.ch.length + 1)) D.down D.stops D.left)) :: (H.mn, .map en cn) :: (H.ms, .map H.es H.cs) :: (pM 68 q (chR D.ch ++ chV c) ++ (pM 65 H.qb (boR H.bs) ++ bytM H.bs)) := by
  show (b, row 61 (dkT D.room (pV H.qb H.bs.length) (.map (some H.mn)) (.map (some H.ms)) (pV q (D.ch ++ [c]).length) D.down D.stops D.left)) :: (H.mn, .map en cn) :: (H.ms, .map H.es H.cs) :: (pM 68 q (chR (D.ch ++ [c])) ++ (pM 65 H.qb (boR H.bs) ++ bytM H.bs)) = _
  rw [chR_app, List.length_append]
  rfl
theorem chg_good {D : Dk} {H : DkH} {c : Ch} {en : Array MapEntry} {cn : Nat} {q : OwnP} {k : Nat} (hG : Good D H) (hW : WfD D k) (hn : MapIs en cn (doM H.ln c)) (hq : PC 3 q (D.ch.length + 1) (chR D.ch ++ chV c)) : Good { D with ch := D.ch ++ [c] } { H with en := en, cn := cn, ln := doM H.ln c, qc := q } := by
  refine ⟨hn, ?_, hG.s, hG.sp, ?_, hG.b, hG.l, hG.q⟩
  · show (doM H.ln c).Perm ((D.ch ++ [c]).foldl doN D.sf)
    rw [List.foldl_append]
    exact doM_perm hG.np hW.asrt c
  · show PC 3 q (D.ch ++ [c]).length (chR (D.ch ++ [c]))
    rw [chR_app, List.length_append]
    exact hq
theorem Good.same {D D' : Dk} {H : DkH} (h : Good D H) (e1 : D'.ch = D.ch) (e2 : D'.sf = D.sf) (e3 : D'.bo = D.bo) : Good D' H :=
  ⟨h.n, (by unfold Dk.all; rw [e1, e2]; exact h.np), h.s, e2 ▸ h.sp, e1 ▸ h.c, h.b, e3 ▸ h.l, h.q⟩
theorem DkP.ok {b : Nat} {D D' D1 : Dk} {H : DkH} {w w' : World} {v v' : Int} (hv : v = v') (e : D' = D1) (h : DkP b D H w D1 (.int .i64 v') (.returned (.int .i64 v')) w') : DkP b D H w D' (.int .i64 v) (.returned (.int .i64 v')) w' := by
  subst hv e
  exact h
theorem DkP.no {b : Nat} {D D' : Dk} {H : DkH} {w w' : World} {v v' : Int} (hG : Good D H) (hv : v = v') (e : D' = D) (h : Upd (dkM b D H) w w' (dkM b D H) []) : DkP b D H w D' (.int .i64 v) (.returned (.int .i64 v')) w' := by
  subst hv e
  exact ⟨H, rfl, hG, h⟩
theorem add_M (b : Nat) (D : Dk) (H : DkH) (q : OwnP) : dkM b { D with bo := D.bo ++ [bo0] } { H with qb := q, bs := H.bs ++ [(bo0, none)] } =
    (b, row 61 (dkT D.room (pV q (H.bs.length + 1)) (.map (some H.mn)) (.map (some H.ms)) (pV H.qc D.ch.length) D.down D.stops D.left)) :: (H.mn, .map H.en H.cn) :: (H.ms, .map H.es H.cs) :: (pM 68 H.qc (chR D.ch) ++ (pM 65 q (boR H.bs ++ boV (bo0, none)) ++ bytM H.bs)) := by
  show (b, row 61 (dkT D.room (pV q (H.bs ++ [(bo0, none)]).length) (.map (some H.mn)) (.map (some H.ms)) (pV H.qc D.ch.length) D.down D.stops D.left)) :: (H.mn, .map H.en H.cn) :: (H.ms, .map H.es H.cs) :: (pM 68 H.qc (chR D.ch) ++ (pM 65 q (boR (H.bs ++ [(bo0, none)])) ++ bytM (H.bs ++ [(bo0, none)]))) = _
  rw [boR_app, bytM_app, List.length_append]
  show _ :: _ :: _ :: (_ ++ (_ ++ (bytM H.bs ++ []))) = _
  rw [List.append_nil]
  rfl
theorem add_good {D : Dk} {H : DkH} {q : OwnP} (hG : Good D H) (hq : PC 2 q (H.bs.length + 1) (boR H.bs ++ boV (bo0, none))) : Good { D with bo := D.bo ++ [bo0] } { H with qb := q, bs := H.bs ++ [(bo0, none)] } := by
  refine ⟨hG.n, hG.np, hG.s, hG.sp, hG.c, ?_, ?_, fun x hx => ?_⟩
  · show PC 2 q (H.bs ++ [(bo0, none)]).length (boR (H.bs ++ [(bo0, none)]))
    rw [boR_app, List.length_append]
    exact hq
  · show (H.bs ++ [(bo0, none)]).map Prod.fst = D.bo ++ [bo0]
    rw [List.map_append, hG.l]
    rfl
  · rcases List.mem_append.1 hx with h | h
    · exact hG.q x h
    · obtain rfl := List.mem_singleton.1 h
      exact ⟨rfl, rfl⟩
theorem createE_1 {D : Dk} {f : ByteArray} (h : D.down = true) : createE D f = 90 := by unfold createE; rw [h, if_pos rfl]
theorem createE_2 {D : Dk} {f : ByteArray} (h : D.down = false) (k : nameOk f = false) : createE D f = 91 := by unfold createE; rw [h, if_neg (by decide), if_pos k]
theorem createE_3 {D : Dk} {f : ByteArray} (h : D.down = false) (k : nameOk f = true) (j : D.find f = none ∧ 16 ≤ D.all.length) : createE D f = 92 := by unfold createE; rw [h, if_neg (by decide), if_neg (by rw [k]; decide), if_pos j]
theorem createE_4 {D : Dk} {f : ByteArray} (h : D.down = false) (k : nameOk f = true) (j : ¬ (D.find f = none ∧ 16 ≤ D.all.length)) : createE D f = 0 := by unfold createE; rw [h, if_neg (by decide), if_neg (by rw [k]; decide), if_neg j]
theorem createD_no {D : Dk} {f : ByteArray} {e : Int} (h : createE D f = e) (he : e ≠ 0) : createD D f = D := if_neg (by rw [h]; exact he)
theorem createD_0 {D : Dk} {f : ByteArray} (h : createE D f = 0) : createD D f = Dk.chg { D with bo := D.bo ++ [bo0] } (e0, f, D.bo.length) := if_pos h
theorem full_iff {o : Option Nat} {n : Nat} : (!o.isSome && decide ((n : Int) ≥ 16)) = true ↔ o = none ∧ 16 ≤ n := by
  cases o with
  | none => simp; omega
  | some x => simp
theorem renameE_1 {D : Dk} {f t : ByteArray} (h : nameE D f ≠ 0) : renameE D f t = nameE D f := by
  unfold nameE renameE at *
  split
  · rfl
  · split
    · rfl
    · rename_i h1 h2
      rw [if_neg h1, if_neg h2] at h
      exact absurd rfl h
theorem renameE_2 {D : Dk} {f t : ByteArray} {i : Nat} (h : D.down = false) (k : D.find f = some i) (j : nameOk t = false) : renameE D f t = 91 := by unfold renameE; rw [h, if_neg (by decide), if_neg (by rw [k]; intro h; cases h), if_pos j]
theorem renameE_3 {D : Dk} {f t : ByteArray} {i : Nat} (h : D.down = false) (k : D.find f = some i) (j : nameOk t = true) : renameE D f t = 0 := by unfold renameE; rw [h, if_neg (by decide), if_neg (by rw [k]; intro h; cases h), if_neg (by rw [j]; decide)]
theorem renameD_no {D : Dk} {f t : ByteArray} {e : Int} (h : renameE D f t = e) (he : e ≠ 0) : renameD D f t = D := if_neg (by rw [h]; exact he)
theorem renameD_0 {D : Dk} {f t : ByteArray} {i : Nat} (h : renameE D f t = 0) (k : D.find f = some i) : renameD D f t = D.chg (f, t, i) := by unfold renameD; rw [if_pos h, k]
theorem removeD_no {D : Dk} {f : ByteArray} (h : nameE D f ≠ 0) : removeD D f = D := if_neg h
theorem removeD_0 {D : Dk} {f : ByteArray} (h : nameE D f = 0) : removeD D f = D.chg (f, e0, 0) := if_pos h
theorem syncD_no {D : Dk} {f : ByteArray} (h : nameE D f ≠ 0) : syncD D f = D := if_neg h
theorem syncD_0 {D : Dk} {f : ByteArray} {i : Nat} (h : nameE D f = 0) (k : D.find f = some i) : syncD D f = (D.setB i ((D.bo.getD i bo0).1, (D.bo.getD i bo0).1.length)).step := by unfold syncD; rw [if_pos h, k]
theorem appendE_1 {D : Dk} {f : ByteArray} {b : List Int} (h : nameE D f ≠ 0) : appendE D f b = nameE D f := by
  unfold nameE appendE at *
  split
  · rfl
  · split
    · rfl
    · rename_i h1 h2
      rw [if_neg h1, if_neg h2] at h
      exact absurd rfl h
theorem appendE_2 {D : Dk} {f : ByteArray} {b : List Int} {i : Nat} (h : D.down = false) (k : D.find f = some i) (j : D.room - D.used < b.length) : appendE D f b = 92 := by unfold appendE; rw [h, if_neg (by decide), if_neg (by rw [k]; intro h; cases h), if_pos j]
theorem appendE_3 {D : Dk} {f : ByteArray} {b : List Int} {i : Nat} (h : D.down = false) (k : D.find f = some i) (j : ¬ D.room - D.used < b.length) : appendE D f b = 0 := by unfold appendE; rw [h, if_neg (by decide), if_neg (by rw [k]; intro h; cases h), if_neg j]
theorem appendD_no {D : Dk} {f : ByteArray} {b : List Int} {e : Int} (h : appendE D f b = e) (he : e ≠ 0) : appendD D f b = D := if_neg (by rw [h]; exact he)
theorem appendD_0 {D : Dk} {f : ByteArray} {b : List Int} {i : Nat} (h : appendE D f b = 0) (k : D.find f = some i) : appendD D f b = (D.setB i ((D.bo.getD i bo0).1 ++ b, (D.bo.getD i bo0).2)).step := by unfold appendD; rw [if_pos h, k]
theorem setB_good {D : Dk} {H : DkH} {i : Nat} {x : Bo} {q' : OwnP} (hG : Good D H) (hi : i < D.bo.length) (hq : PC 1 q' x.1.length (dg x.1)) : Good (D.setB i x) { H with bs := H.bs.set i (x, q') } := by
  have hi2 : i < H.bs.length := by rw [bs_len hG]; exact hi
  refine ⟨hG.n, hG.np, hG.s, hG.sp, hG.c, ?_, ?_, fun y hy => ?_⟩
  · show PC 2 H.qb (H.bs.set i (x, q')).length (boR (H.bs.set i (x, q')))
    have h1 := hG.b
    rcases hqb : H.qb with _ | ⟨g, pre, c, r⟩
    · rw [hqb] at h1
      have := h1.1
      omega
    · rw [hqb] at h1
      exact ⟨boR_len _, by rw [List.length_set]; exact h1.2.1, by rw [List.length_set]; exact h1.2.2⟩
  · show (H.bs.set i (x, q')).map Prod.fst = D.bo.set i x
    rw [List.map_set, hG.l]
  · rcases List.mem_or_eq_of_mem_set hy with h | rfl
    · exact hG.q y h
    · exact hq
theorem sync_M (b : Nat) (D : Dk) (H : DkH) {i : Nat} {x : Bo} {q : OwnP} (h : H.bs[i]? = some (x, q)) (n : Nat) : dkM b (D.setB i (x.1, n)) { H with bs := H.bs.set i ((x.1, n), q) } =
    (b, row 61 (dkC D H)) :: (H.mn, .map H.en H.cn) :: (H.ms, .map H.es H.cs) :: (pM 68 H.qc (chR D.ch) ++ (pM 65 H.qb ((boR H.bs).set (i * 2 + 1) (.int .i64 n)) ++ bytM H.bs)) := by
  have hi := (List.getElem?_eq_some_iff.1 h).1
  show (b, row 61 (dkT D.room (pV H.qb (H.bs.set i ((x.1, n), q)).length) _ _ _ _ _ _)) :: _ :: _ :: (_ ++ (pM 65 H.qb (boR (H.bs.set i ((x.1, n), q))) ++ bytM (H.bs.set i ((x.1, n), q)))) = _
  rw [List.length_set, boR_set (y := ((x.1, n), q)) (k := 1) (v := .int .i64 n) h (by decide) rfl, bytM_set hi]
  conv => rhs; rw [bytM_split h]
  rfl
theorem appd_M (b : Nat) (D : Dk) (H : DkH) {i : Nat} {x : Bo} {q q' : OwnP} (h : H.bs[i]? = some (x, q)) (l : List Int) : dkM b (D.setB i (x.1 ++ l, x.2)) { H with bs := H.bs.set i ((x.1 ++ l, x.2), q') } =
    (b, row 61 (dkC D H)) :: (H.mn, .map H.en H.cn) :: (H.ms, .map H.es H.cs) :: (pM 68 H.qc (chR D.ch) ++ (pM 65 H.qb ((boR H.bs).set (i * 2) (pV q' (x.1.length + l.length))) ++ (bytM (H.bs.take i) ++ (pM 5 q' (dg x.1 ++ dg l) ++ bytM (H.bs.drop (i + 1)))))) := by
  have hi := (List.getElem?_eq_some_iff.1 h).1
  show (b, row 61 (dkT D.room (pV H.qb (H.bs.set i ((x.1 ++ l, x.2), q')).length) _ _ _ _ _ _)) :: _ :: _ :: (_ ++ (pM 65 H.qb (boR (H.bs.set i ((x.1 ++ l, x.2), q'))) ++ bytM (H.bs.set i ((x.1 ++ l, x.2), q')))) = _
  rw [List.length_set, bytM_set hi]
  have h1 := boR_set (y := ((x.1 ++ l, x.2), q')) (k := 0) (v := pV q' (x.1.length + l.length)) h (by decide) (by show [pV q' (x.1 ++ l).length, _] = _; rw [List.length_append]; rfl)
  rw [Nat.add_zero] at h1
  rw [← h1]
  show _ = _ :: _ :: _ :: (_ ++ (_ ++ (_ ++ (pM _ _ (dg x.1 ++ dg l) ++ _))))
  rw [show dg x.1 ++ dg l = dg (x.1 ++ l) from (List.map_append).symm]
  rfl
theorem names_good {D : Dk} {H : DkH} (hG : Good D H) (m : Nat) : Good { D with sf := D.all, ch := [] } { H with ms := m, es := H.en, cs := H.cn, ls := H.ln, qc := none } :=
  ⟨hG.n, hG.np, hG.n, hG.np, ⟨rfl, rfl⟩, hG.b, hG.l, hG.q⟩
theorem SlC.toB' {w : World} {v : Value} {l : List Int} (h : SlC 1 w v l.length (dg l)) : SlB w v l := by
  rcases h with ⟨h0, _, a, c, e⟩ | ⟨b, off, c, e, _, hc⟩
  · exact .inl ⟨List.length_eq_zero_iff.1 h0, a, c, e⟩
  · refine .inr ⟨b, off, c, e, fun j x hj => hc j _ ?_⟩
    show (l.map (Value.int .u8))[j]? = _
    rw [List.getElem?_map, hj]
    rfl
section
variable {cx : Cx} {m : Mem} {fs : List Fact} {w : World}
theorem Good.slB {D : Dk} {H : DkH} (hG : Good D H) (h : OkW cx m fs w) (hm : ∀ p ∈ dkR D H, p ∈ m) : SlC 2 w (pV H.qb H.bs.length) H.bs.length (boR H.bs) :=
  hG.b.slC (e := 65) h fun p hp => hm p (List.mem_append_right _ (List.mem_append_left _ hp))
theorem Good.slX {D : Dk} {H : DkH} (hG : Good D H) (h : OkW cx m fs w) (hm : ∀ p ∈ dkR D H, p ∈ m) {i : Nat} {x : Bo} {q : OwnP} (hi : H.bs[i]? = some (x, q)) : SlB w (pV q x.1.length) x.1 :=
  SlC.toB' ((hG.q (x, q) (List.mem_of_getElem? hi)).slC (e := 5) h fun p hp => hm p (List.mem_append_right _ (List.mem_append_right _ (by rw [bytM_split hi]; exact List.mem_append_right _ (List.mem_append_left _ hp)))))
theorem Good.slH {D : Dk} {H : DkH} (hG : Good D H) (h : OkW cx m fs w) (hm : ∀ p ∈ dkR D H, p ∈ m) : SlC 3 w (pV H.qc D.ch.length) D.ch.length (chR D.ch) :=
  hG.c.slC (e := 68) h fun p hp => hm p (List.mem_append_left _ hp)
end
theorem okA {P : Program} {w : World} {m : Mem} (hM : MemAt w m) : OkW { P := P, w0 := w, nt := 0, mods := m.map (·.1) } m [] w := okMem hM (by simp)

/-- The letters of a name. -/
def lets : List UInt8 := [97, 98, 99, 100, 101, 102, 103, 104, 105, 106, 107, 108, 109, 110, 111, 112, 113, 114, 115, 116, 117, 118, 119, 120, 121, 122, 48, 49, 50, 51, 52, 53, 54, 55, 56, 57, 45]
theorem lets_all : (List.range 256).all (fun n => lets.contains n.toUInt8 == letB n.toUInt8) = true := by decide +kernel
theorem lets_in (c : UInt8) : lets.contains c = letB c := by
  have h := List.all_eq_true.1 lets_all c.toNat (List.mem_range.2 (UInt8.toNat_lt c))
  have e : c.toNat.toUInt8 = c := by simp
  rw [e] at h
  simpa using h
theorem dropWhile_nil {α : Type} (p : α → Bool) : ∀ l : List α, l.dropWhile p = [] ↔ l.all p = true
  | [] => by simp
  | x :: l => by
    rw [List.dropWhile_cons, List.all_cons]
    cases h : p x with
    | true => rw [if_pos rfl, dropWhile_nil p l, Bool.true_and]
    | false => rw [if_neg (by decide), Bool.false_and]; exact ⟨fun h => (by cases h), fun h => (by cases h)⟩
theorem trim_nil (l : List UInt8) : Go.Lib.trimS l lets = [] ↔ l.all letB = true := by
  have e : ∀ l : List UInt8, l.all (lets.contains ·) = l.all letB := fun l => by congr 1; funext c; exact lets_in c
  unfold Go.Lib.trimS Go.Lib.trimLeftS Go.Lib.trimRightS
  rw [dropWhile_nil, e, List.all_reverse]
  constructor
  · intro h
    have h1 : (l.reverse.dropWhile (lets.contains ·)).all letB = true := h
    have h2 : (l.reverse.takeWhile (lets.contains ·)).all letB = true := by
      rw [← e]
      exact List.all_takeWhile
    rw [← List.all_reverse, ← List.takeWhile_append_dropWhile (p := (lets.contains ·)) (l := l.reverse), List.all_append, h1, h2]
    rfl
  · intro h
    rw [← List.all_reverse] at h
    exact List.all_eq_true.2 fun x hx => List.all_eq_true.1 h x ((List.dropWhile_sublist _).subset hx)
theorem lets_asc : ∀ b ∈ lets, b.toNat < 128 := by decide
theorem name_eq (s : ByteArray) : (decide (s ≠ ⟨#[]⟩) && decide ((s.size : Int) ≤ 16) && decide ((⟨(Go.Lib.trimS s.data.toList lets).toArray⟩ : ByteArray) = ⟨#[]⟩)) = nameOk s := by
  unfold nameOk
  have e1 : decide ((⟨(Go.Lib.trimS s.data.toList lets).toArray⟩ : ByteArray) = ⟨#[]⟩) = s.data.toList.all letB := by
    rw [Bool.eq_iff_iff, decide_eq_true_eq, ← trim_nil]
    constructor
    · intro h
      injection h with h
      simpa using h
    · intro h
      rw [h]
  rw [e1, ne0d]
  congr 1
  rw [Bool.eq_iff_iff, Bool.and_eq_true, decide_eq_true_eq, decide_eq_true_eq, decide_eq_true_eq]
  omega
theorem elC : ElemOf Tryd.prog 68 3 40 (.agg [.string ByteArray.empty, .string ByteArray.empty, .int .i64 0].toArray) := elem_of (by kernel_rfl) rfl
theorem bsC (c : Ch) (w : World) : (Instr.buildSlice 59 1 [(0, .agg (chV c).toArray)].toArray).run Tryd.prog w = .ok (.slice (some ⟨w.heap.size, 0, none⟩) 1 1) (w.alloc (row 68 (chV c))) := by kernel_rfl
theorem sz3da : (Tryd.prog.info? 3).map (·.size) = some 1 := by kernel_rfl
theorem sz4da : (Tryd.prog.info? 4).map (·.size) = some 1 := by kernel_rfl
theorem sz9da : (Tryd.prog.info? 9).map (·.size) = some 1 := by kernel_rfl
theorem sz57da : (Tryd.prog.info? 57).map (·.size) = some 1 := by kernel_rfl
theorem sz59da : (Tryd.prog.info? 59).map (·.size) = some 1 := by kernel_rfl
theorem sz68da : (Tryd.prog.info? 68).map (·.size) = some 3 := by kernel_rfl
theorem tx29da : Txt Tryd.prog 29 := txt_of Tryd.func29 rfl (by kernel_rfl)
theorem tx33da : Txt Tryd.prog 33 := txt_of Tryd.func33 rfl (by kernel_rfl)
theorem tx35da : Txt Tryd.prog 35 := txt_of Tryd.func35 rfl (by kernel_rfl)
theorem tx51da : Txt Tryd.prog 51 := txt_of Tryd.func51 rfl (by kernel_rfl)
theorem z3da : (Tryd.prog.info? 3).bind (·.zero) = some (.int .i64 0) := by kernel_rfl

theorem name_w (s : ByteArray) (w : World) :
    Calls Tryd.prog 30 #[.string s] w fun e w' => e = .returned (.bool (nameOk s)) ∧ Fr [] w w' := by
  refine calls_of (args := [.string s]) ([]) ([]) ([]) Tryd.func30 rfl rfl (okW0 _ _ _ _) ?_
  refine J_seq ?_
  refine J_region ?_
  refine L_v rfl rfl rfl (V_assign rfl rfl) ?_
  refine L_nil ?_
  change J _ _ _ _
  refine J_seq ?_
  refine J_region ?_
  refine L_v rfl rfl rfl (V_move rfl rfl) ?_
  refine L_v rfl rfl rfl (V_neS rfl rfl rfl rfl) ?_
  refine L_v rfl rfl rfl (V_move rfl rfl) ?_
  apply L_and 3 5 9
  · rfl
  · rfl
  · rfl
  · rfl
  · rfl
  · rfl
  · rfl
  · kernel_rfl
  · intro hb1 _ _ hk1
    refine L_wv rfl rfl rfl rfl rfl rfl (V_move rfl rfl) ?_
    refine L_wv rfl rfl rfl rfl rfl rfl (V_lenS rfl rfl Tryd.underlying9 rfl) ?_
    refine L_wv rfl rfl rfl rfl rfl rfl (V_leq rfl rfl rfl rfl) ?_
    exact hk1 _ ⟨rfl, rfl, rfl, rfl, ext_cut 3 (by kernel_rfl) (by kernel_rfl)⟩
  refine L_v rfl rfl rfl (V_move rfl rfl) ?_
  apply L_and 3 10 14
  · rfl
  · rfl
  · rfl
  · rfl
  · rfl
  · rfl
  · rfl
  · kernel_rfl
  · intro hb2 _ _ hk2
    refine L_wv rfl rfl rfl rfl rfl rfl (V_move rfl rfl) ?_
    refine L_wcallV rfl rfl rfl rfl rfl rfl rfl rfl rfl tx51da (fun w1 hw => (Go.Proofs.Tryd.trim_w s _ w1 (by rw [Bool.and_eq_true, decide_eq_true_eq, decide_eq_true_eq] at hb2; omega) (by decide) (fun j b hj => lets_asc b (List.mem_of_getElem? hj))).mono fun e w2 h => ⟨h.1, Fr.of_below h.2⟩) ?_
    refine L_wv rfl rfl rfl rfl rfl rfl (V_eqS rfl rfl rfl rfl) ?_
    exact hk2 _ ⟨rfl, rfl, rfl, rfl, ext_cut 3 (by kernel_rfl) (by kernel_rfl)⟩
  refine L_v rfl rfl rfl (V_assign rfl rfl) ?_
  refine L_nil ?_
  change J _ _ _ _
  refine J_ret ?_
  change Kret _ _ _ Exit.ret _
  refine ret1 rfl rfl (RV_t rfl) ?_
  exact fun w' h => ⟨congrArg (fun b => Ending.returned (Value.bool b)) (name_eq s), h.fr⟩

theorem ready_w (b0 : Nat) (D : Dk) (H : DkH) (w : World) (hb : w.heap[b0]? = some (row 61 (dkC D H))) :
    Calls Tryd.prog 29 #[.pointer (some ⟨b0, 0, none⟩)] w fun e w' => e = .returned (.int .i64 (if D.down then 90 else 0)) ∧ Fr [] w w' := by
  refine calls_of (args := [.pointer (some ⟨b0, 0, none⟩)]) ([]) ([]) ([]) Tryd.func29 rfl rfl (okW0 _ _ _ _) ?_
  refine J_seq ?_
  refine J_region ?_
  refine L_v rfl rfl rfl (V_assign rfl rfl) ?_
  refine L_nil ?_
  change J _ _ _ _
  refine J_seq ?_
  refine J_block ?_
  refine J_seq ?_
  refine J_region ?_
  refine L_v rfl rfl rfl (V_move rfl rfl) ?_
  refine L_v rfl rfl rfl (V_eqP rfl rfl rfl Tryd.underlying24 rfl) ?_
  refine L_v rfl rfl rfl (V_assign rfl rfl) ?_
  refine L_nil ?_
  change J _ _ _ _
  refine J_false rfl ?_
  refine J_seq ?_
  refine J_region ?_
  refine L_v rfl rfl rfl (V_move rfl rfl) ?_
  refine L_v rfl rfl rfl (V_nilCheck rfl rfl) ?_
  refine L_v rfl rfl rfl (V_fieldAddr rfl rfl Tryd.underlying61 rfl sz4da rfl) ?_
  refine L_v rfl rfl rfl (V_loadF rfl rfl Tryd.underlying4 rfl (fun w hw => OkW.later hw rfl hb) rfl) ?_
  refine L_v rfl rfl rfl (V_assign rfl rfl) ?_
  refine L_nil ?_
  change J _ _ _ _
  refine J_cond rfl (fun h1 => ?_) (fun h1 => ?_)
  ·
    first | (have h1 := of_decide_eq_true h1) | (have h1 := of_decide_eq_false h1) | skip
    refine J_seq ?_
    refine J_region ?_
    refine L_v rfl rfl rfl (V_assign rfl rfl) ?_
    refine L_nil ?_
    change J _ _ _ _
    refine J_ret ?_
    change Kret _ _ _ Exit.ret _
    refine ret1 rfl rfl (RV_t rfl) ?_
    exact fun w' h => ⟨by rw [h1]; rfl, h.fr⟩
  ·
    first | (have h1 := of_decide_eq_true h1) | (have h1 := of_decide_eq_false h1) | skip
    refine J_skip ?_
    change J _ _ _ _
    refine J_seq ?_
    refine J_region ?_
    refine L_v rfl rfl rfl (V_assign rfl rfl) ?_
    refine L_nil ?_
    change J _ _ _ _
    refine J_ret ?_
    change Kret _ _ _ Exit.ret _
    refine ret1 rfl rfl (RV_t rfl) ?_
    exact fun w' h => ⟨by rw [h1]; rfl, h.fr⟩

theorem ready_0 (w : World) :
    Calls Tryd.prog 29 #[.pointer none] w fun e w' => e = .returned (.int .i64 3) ∧ Fr [] w w' := by
  refine calls_of (args := [.pointer none]) ([]) ([]) ([]) Tryd.func29 rfl rfl (okW0 _ _ _ _) ?_
  refine J_seq ?_
  refine J_region ?_
  refine L_v rfl rfl rfl (V_assign rfl rfl) ?_
  refine L_nil ?_
  change J _ _ _ _
  refine J_seq ?_
  refine J_block ?_
  refine J_seq ?_
  refine J_region ?_
  refine L_v rfl rfl rfl (V_move rfl rfl) ?_
  refine L_v rfl rfl rfl (V_eqP rfl rfl rfl Tryd.underlying24 rfl) ?_
  refine L_v rfl rfl rfl (V_assign rfl rfl) ?_
  refine L_nil ?_
  change J _ _ _ _
  refine J_true rfl ?_
  refine J_seq ?_
  refine J_region ?_
  refine L_v rfl rfl rfl (V_assign rfl rfl) ?_
  refine L_nil ?_
  change J _ _ _ _
  refine J_ret ?_
  change Kret _ _ _ Exit.ret _
  refine ret1 rfl rfl (RV_t rfl) ?_
  exact fun w' h => ⟨rfl, h.fr⟩

theorem of_w (b0 : Nat) (D : Dk) (H : DkH) (f : ByteArray) (w : World) (hb : w.heap[b0]? = some (row 61 (dkC D H))) (hn : w.heap[H.mn]? = some (.map H.en H.cn)) (hG : Good D H) :
    Calls Tryd.prog 32 #[.pointer (some ⟨b0, 0, none⟩), .string f] w fun e w' => e = .returned (.tuple #[.int .i64 (ofV D f), .int .i64 (nameE D f)]) ∧ Fr [] w w' := by
  refine calls_of (args := [.pointer (some ⟨b0, 0, none⟩), .string f]) ([]) ([]) ([]) Tryd.func32 rfl rfl (okW0 _ _ _ _) ?_
  refine J_seq ?_
  refine J_region ?_
  refine L_v rfl rfl rfl (V_assign rfl rfl) ?_
  refine L_v rfl rfl rfl (V_assign rfl rfl) ?_
  refine L_nil ?_
  change J _ _ _ _
  refine J_seq ?_
  refine J_seq ?_
  refine J_region ?_
  refine L_v rfl rfl rfl (V_move rfl rfl) ?_
  refine L_callV rfl rfl rfl rfl rfl rfl tx29da (fun w1 hw => ready_w b0 D H w1 (OkW.later hw rfl hb)) ?_
  refine L_v rfl rfl rfl (V_assign rfl rfl) ?_
  refine L_nil ?_
  change J _ _ _ _
  refine J_seq ?_
  refine J_region ?_
  refine L_v rfl rfl rfl (V_move rfl rfl) ?_
  refine L_v rfl rfl rfl (V_neq rfl rfl rfl rfl) ?_
  refine L_nil ?_
  change J _ _ _ _
  refine J_cond rfl (fun h1 => ?_) (fun h1 => ?_)
  ·
    first | (have h1 := of_decide_eq_true h1) | (have h1 := of_decide_eq_false h1) | skip
    have hd := rdy_T h1
    refine J_seq ?_
    refine J_region ?_
    refine L_v rfl rfl rfl (V_move rfl rfl) ?_
    refine L_v rfl rfl rfl (V_assign rfl rfl) ?_
    refine L_v rfl rfl rfl (V_assign rfl rfl) ?_
    refine L_nil ?_
    change J _ _ _ _
    refine J_ret ?_
    change Kret _ _ _ Exit.ret _
    refine ret2 rfl rfl (RV_t rfl) (RV_t rfl) ?_
    exact fun w' h => ⟨by rw [ofV_0 (by rw [nameE_1 hd]; decide), nameE_1 hd, hd]; rfl, h.fr⟩
  ·
    first | (have h1 := of_decide_eq_true h1) | (have h1 := of_decide_eq_false h1) | skip
    have hd := rdy_F h1
    refine J_skip ?_
    change J _ _ _ _
    refine J_seq ?_
    refine J_region ?_
    refine L_v rfl rfl rfl (V_move rfl rfl) ?_
    refine L_v rfl rfl rfl (V_nilCheck rfl rfl) ?_
    refine L_v rfl rfl rfl (V_fieldAddr rfl rfl Tryd.underlying61 rfl sz57da rfl) ?_
    refine L_v rfl rfl rfl (V_loadF rfl rfl Tryd.underlying57 rfl (fun w hw => OkW.later hw rfl hb) rfl) ?_
    refine L_v rfl rfl rfl (V_move rfl rfl) ?_
    refine L_v rfl rfl rfl (V_lookupF rfl rfl rfl Tryd.underlying57 Tryd.underlying9 z3da (fun w1 hw => OkW.later hw rfl hn) hG.n (hG.find f)) ?_
    refine L_v rfl rfl rfl (V_move rfl rfl) ?_
    refine L_v rfl rfl rfl (V_extract rfl rfl rfl) ?_
    refine L_v rfl rfl rfl (V_extract rfl rfl rfl) ?_
    refine L_v rfl rfl rfl (V_assign rfl rfl) ?_
    refine L_v rfl rfl rfl (V_assign rfl rfl) ?_
    refine L_nil ?_
    change J _ _ _ _
    refine J_seq ?_
    refine J_seq ?_
    refine J_region ?_
    refine L_v rfl rfl rfl (V_move rfl rfl) ?_
    refine L_v rfl rfl rfl (V_not rfl rfl rfl) ?_
    refine L_nil ?_
    change J _ _ _ _
    refine J_cond rfl (fun h2 => ?_) (fun h2 => ?_)
    ·
      first | (have h2 := of_decide_eq_true h2) | (have h2 := of_decide_eq_false h2) | skip
      have h2 := isS_T h2
      refine J_seq ?_
      refine J_region ?_
      refine L_v rfl rfl rfl (V_assign rfl rfl) ?_
      refine L_v rfl rfl rfl (V_assign rfl rfl) ?_
      refine L_nil ?_
      change J _ _ _ _
      refine J_ret ?_
      change Kret _ _ _ Exit.ret _
      refine ret2 rfl rfl (RV_t rfl) (RV_t rfl) ?_
      exact fun w' h => ⟨by rw [ofV_0 (by rw [nameE_2 hd h2]; decide), nameE_2 hd h2], h.fr⟩
    ·
      first | (have h2 := of_decide_eq_true h2) | (have h2 := of_decide_eq_false h2) | skip
      obtain ⟨i, hi⟩ := isS_F h2
      refine J_skip ?_
      change J _ _ _ _
      refine J_seq ?_
      refine J_region ?_
      refine L_v rfl rfl rfl (V_move rfl rfl) ?_
      refine L_v rfl rfl rfl (V_assign rfl rfl) ?_
      refine L_v rfl rfl rfl (V_assign rfl rfl) ?_
      refine L_nil ?_
      change J _ _ _ _
      refine J_ret ?_
      change Kret _ _ _ Exit.ret _
      refine ret2 rfl rfl (RV_t rfl) (RV_t rfl) ?_
      exact fun w' h => ⟨by rw [ofV_3 hd hi, nameE_3 hd hi, hi]; rfl, h.fr⟩

theorem of_0 (f : ByteArray) (w : World) :
    Calls Tryd.prog 32 #[.pointer none, .string f] w fun e w' => e = .returned (.tuple #[.int .i64 0, .int .i64 3]) ∧ Fr [] w w' := by
  refine calls_of (args := [.pointer none, .string f]) ([]) ([]) ([]) Tryd.func32 rfl rfl (okW0 _ _ _ _) ?_
  refine J_seq ?_
  refine J_region ?_
  refine L_v rfl rfl rfl (V_assign rfl rfl) ?_
  refine L_v rfl rfl rfl (V_assign rfl rfl) ?_
  refine L_nil ?_
  change J _ _ _ _
  refine J_seq ?_
  refine J_seq ?_
  refine J_region ?_
  refine L_v rfl rfl rfl (V_move rfl rfl) ?_
  refine L_callV rfl rfl rfl rfl rfl rfl tx29da (fun w1 hw => ready_0 w1) ?_
  refine L_v rfl rfl rfl (V_assign rfl rfl) ?_
  refine L_nil ?_
  change J _ _ _ _
  refine J_seq ?_
  refine J_region ?_
  refine L_v rfl rfl rfl (V_move rfl rfl) ?_
  refine L_v rfl rfl rfl (V_neq rfl rfl rfl rfl) ?_
  refine L_nil ?_
  change J _ _ _ _
  refine J_true rfl ?_
  refine J_seq ?_
  refine J_region ?_
  refine L_v rfl rfl rfl (V_move rfl rfl) ?_
  refine L_v rfl rfl rfl (V_assign rfl rfl) ?_
  refine L_v rfl rfl rfl (V_assign rfl rfl) ?_
  refine L_nil ?_
  change J _ _ _ _
  refine J_ret ?_
  change Kret _ _ _ Exit.ret _
  refine ret2 rfl rfl (RV_t rfl) (RV_t rfl) ?_
  exact fun w' h => ⟨rfl, h.fr⟩

theorem step_w (b0 : Nat) (D : Dk) (H : DkH) (w : World) (hb : w.heap[b0]? = some (row 61 (dkC D H))) (hl : D.stops = true → 1 ≤ D.left ∧ D.left ≤ 1000000) :
    Calls Tryd.prog 33 #[.pointer (some ⟨b0, 0, none⟩)] w fun e w' => e = .returned (.int .i64 0) ∧ Fr [b0] w w' ∧ w'.heap[b0]? = some (row 61 (dkC D.step H)) := by
  refine calls_of (args := [.pointer (some ⟨b0, 0, none⟩)]) ([b0]) ([(b0, row 61 (dkC D H))]) ([]) Tryd.func33 rfl rfl (okM1 hb (by simp)) ?_
  refine J_seq ?_
  refine J_region ?_
  refine L_v rfl rfl rfl (V_assign rfl rfl) ?_
  refine L_nil ?_
  change J _ _ _ _
  refine J_seq ?_
  refine J_seq ?_
  refine J_region ?_
  refine L_v rfl rfl rfl (V_move rfl rfl) ?_
  refine L_v rfl rfl rfl (V_nilCheck rfl rfl) ?_
  refine L_v rfl rfl rfl (V_fieldAddr rfl rfl Tryd.underlying61 rfl sz4da rfl) ?_
  refine L_v rfl rfl rfl (V_load1 0 rfl rfl rfl Tryd.underlying4 rfl (by rfl)) ?_
  refine L_nil ?_
  change J _ _ _ _
  refine J_cond rfl (fun h1 => ?_) (fun h1 => ?_)
  ·
    first | (have h1 := of_decide_eq_true h1) | (have h1 := of_decide_eq_false h1) | skip
    have hl := hl h1
    refine J_seq ?_
    refine J_region ?_
    refine L_v rfl rfl rfl (V_move rfl rfl) ?_
    refine L_v rfl rfl rfl (V_nilCheck rfl rfl) ?_
    refine L_v rfl rfl rfl (V_fieldAddr rfl rfl Tryd.underlying61 rfl sz3da rfl) ?_
    refine L_v rfl rfl rfl (V_load1 0 rfl rfl rfl Tryd.underlying3 rfl (by rfl)) ?_
    refine L_v rfl rfl rfl (V_sub rfl rfl rfl (by first | exact Go.IntWalk.i64_in _ (by omega) | rfl)) ?_
    refine L_v rfl rfl rfl (V_nilCheck rfl rfl) ?_
    refine L_v rfl rfl rfl (V_fieldAddr rfl rfl Tryd.underlying61 rfl sz3da rfl) ?_
    refine L_store1 0 (l' := dkT D.room (pV H.qb H.bs.length) (.map (some H.mn)) (.map (some H.ms)) (pV H.qc D.ch.length) D.down D.stops (D.left - 1)) rfl rfl rfl rfl rfl rfl rfl sz3da (Nat.le_of_ble_eq_true (by kernel_rfl)) (by kernel_rfl) ?_
    refine L_nil ?_
    change J _ _ _ _
    refine J_region ?_
    refine L_v rfl rfl rfl (V_move rfl rfl) ?_
    refine L_v rfl rfl rfl (V_move rfl rfl) ?_
    refine L_v rfl rfl rfl (V_nilCheck rfl rfl) ?_
    refine L_v rfl rfl rfl (V_fieldAddr rfl rfl Tryd.underlying61 rfl sz3da rfl) ?_
    refine L_v rfl rfl rfl (V_load1 0 rfl rfl rfl Tryd.underlying3 rfl (by rfl)) ?_
    refine L_v rfl rfl rfl (V_leq rfl rfl rfl rfl) ?_
    refine L_v rfl rfl rfl (V_nilCheck rfl rfl) ?_
    refine L_v rfl rfl rfl (V_fieldAddr rfl rfl Tryd.underlying61 rfl sz4da rfl) ?_
    refine L_store1 0 (l' := dkT D.room (pV H.qb H.bs.length) (.map (some H.mn)) (.map (some H.ms)) (pV H.qc D.ch.length) (decide (D.left - 1 ≤ 0)) D.stops (D.left - 1)) rfl rfl rfl rfl rfl rfl rfl sz4da (Nat.le_of_ble_eq_true (by kernel_rfl)) (by kernel_rfl) ?_
    refine L_nil ?_
    change J _ _ _ _
    refine J_seq ?_
    refine J_region ?_
    refine L_v rfl rfl rfl (V_assign rfl rfl) ?_
    refine L_nil ?_
    change J _ _ _ _
    refine J_ret ?_
    change Kret _ _ _ Exit.ret _
    refine ret1 rfl rfl (RV_t rfl) ?_
    exact fun w' h => ⟨rfl, h.fr, by have h9 := h.at (i := 0) rfl; rw [h9]; show some (row _ (dkT _ _ _ _ _ _ D.stops _)) = some (row _ (dkT _ _ _ _ _ (if D.stops then _ else _) D.stops (if D.stops then _ else _))); rw [h1]; rfl⟩
  ·
    first | (have h1 := of_decide_eq_true h1) | (have h1 := of_decide_eq_false h1) | skip
    refine J_skip ?_
    change J _ _ _ _
    refine J_seq ?_
    refine J_region ?_
    refine L_v rfl rfl rfl (V_assign rfl rfl) ?_
    refine L_nil ?_
    change J _ _ _ _
    refine J_ret ?_
    change Kret _ _ _ Exit.ret _
    refine ret1 rfl rfl (RV_t rfl) ?_
    exact fun w' h => ⟨rfl, h.fr, by have h9 := h.at (i := 0) rfl; rw [h9]; show some (row _ (dkT _ _ _ _ _ _ D.stops _)) = some (row _ (dkT _ _ _ _ _ (if D.stops then _ else _) D.stops (if D.stops then _ else _))); rw [h1]; rfl⟩

theorem do_w (m : Nat) (en : Array MapEntry) (ck : Nat) (l : List Nm) (c : Ch) (w : World) (hm : w.heap[m]? = some (.map en ck)) (hI : MapIs en ck l) :
    Calls Tryd.prog 35 #[.agg (chV c).toArray, .map (some m)] w fun e w' => ∃ en' ck', e = .returned (.tuple #[]) ∧ Fr [m] w w' ∧ w'.heap[m]? = some (.map en' ck') ∧ MapIs en' ck' (doM l c) := by
  refine calls_of (args := [.agg (chV c).toArray, .map (some m)]) ([m]) ([(m, .map en ck)]) ([]) Tryd.func35 rfl rfl (okM1 hm (by simp)) ?_
  refine J_seq ?_
  refine J_region ?_
  refine L_box rfl rfl rfl rfl rfl (fun b1 => ?_)
  refine L_nil ?_
  change J _ _ _ _
  refine J_seq ?_
  refine J_seq ?_
  refine J_region ?_
  refine L_v rfl rfl rfl (V_fieldAddr rfl rfl Tryd.underlying68 rfl sz9da rfl) ?_
  refine L_v rfl rfl rfl (V_load1 1 rfl rfl rfl Tryd.underlying9 rfl (by rfl)) ?_
  refine L_v rfl rfl rfl (V_neS rfl rfl rfl rfl) ?_
  refine L_nil ?_
  change J _ _ _ _
  refine J_cond rfl (fun h1 => ?_) (fun h1 => ?_)
  ·
    first | (have h1 := of_decide_eq_true h1) | (have h1 := of_decide_eq_false h1) | skip
    refine J_region ?_
    refine L_v rfl rfl rfl (V_move rfl rfl) ?_
    refine L_v rfl rfl rfl (V_fieldAddr rfl rfl Tryd.underlying68 rfl sz9da rfl) ?_
    refine L_v rfl rfl rfl (V_load1 1 rfl rfl rfl Tryd.underlying9 rfl (by rfl)) ?_
    refine L_delete 0 rfl rfl rfl rfl Tryd.underlying57 Tryd.underlying9 rfl hI (fun en1 hI1 => ?_)
    refine L_nil ?_
    change J _ _ _ _
    refine J_seq ?_
    refine J_region ?_
    refine L_v rfl rfl rfl (V_fieldAddr rfl rfl Tryd.underlying68 rfl sz9da rfl) ?_
    refine L_v rfl rfl rfl (V_load1 1 rfl rfl rfl Tryd.underlying9 rfl (by rfl)) ?_
    refine L_v rfl rfl rfl (V_neS rfl rfl rfl rfl) ?_
    refine L_nil ?_
    change J _ _ _ _
    refine J_cond rfl (fun h2 => ?_) (fun h2 => ?_)
    ·
      first | (have h2 := of_decide_eq_true h2) | (have h2 := of_decide_eq_false h2) | skip
      refine J_region ?_
      refine L_v rfl rfl rfl (V_move rfl rfl) ?_
      refine L_v rfl rfl rfl (V_fieldAddr rfl rfl Tryd.underlying68 rfl sz9da rfl) ?_
      refine L_v rfl rfl rfl (V_load1 1 rfl rfl rfl Tryd.underlying9 rfl (by rfl)) ?_
      refine L_v rfl rfl rfl (V_fieldAddr rfl rfl Tryd.underlying68 rfl sz3da rfl) ?_
      refine L_v rfl rfl rfl (V_load1 1 rfl rfl rfl Tryd.underlying3 rfl (by rfl)) ?_
      refine L_mapUpdate 0 rfl rfl rfl rfl rfl rfl Tryd.underlying57 Tryd.underlying9 rfl hI1 (fun en2 ck2 hI2 => ?_)
      refine L_nil ?_
      change Kret _ _ _ Exit.normal _
      refine Kret_normal ?_
      refine ret0 rfl rfl  ?_
      exact fun w' h => ⟨_, _, rfl, h.fr, h.at (i := 0) rfl, by unfold doM; rw [if_neg (show ¬ c.2.1 = e0 from h2), if_neg (show ¬ c.1 = e0 from h1)]; exact hI2⟩
    ·
      first | (have h2 := of_decide_eq_true h2) | (have h2 := of_decide_eq_false h2) | skip
      have h2 : c.2.1 = e0 := Classical.not_not.1 h2
      refine J_skip ?_
      change Kret _ _ _ Exit.normal _
      refine Kret_normal ?_
      refine ret0 rfl rfl  ?_
      exact fun w' h => ⟨_, _, rfl, h.fr, h.at (i := 0) rfl, by unfold doM; rw [if_pos (show c.2.1 = e0 from h2), if_neg (show ¬ c.1 = e0 from h1)]; exact hI1⟩
  ·
    first | (have h1 := of_decide_eq_true h1) | (have h1 := of_decide_eq_false h1) | skip
    have h1 : c.1 = e0 := Classical.not_not.1 h1
    refine J_skip ?_
    change J _ _ _ _
    refine J_seq ?_
    refine J_region ?_
    refine L_v rfl rfl rfl (V_fieldAddr rfl rfl Tryd.underlying68 rfl sz9da rfl) ?_
    refine L_v rfl rfl rfl (V_load1 1 rfl rfl rfl Tryd.underlying9 rfl (by rfl)) ?_
    refine L_v rfl rfl rfl (V_neS rfl rfl rfl rfl) ?_
    refine L_nil ?_
    change J _ _ _ _
    refine J_cond rfl (fun h2 => ?_) (fun h2 => ?_)
    ·
      first | (have h2 := of_decide_eq_true h2) | (have h2 := of_decide_eq_false h2) | skip
      refine J_region ?_
      refine L_v rfl rfl rfl (V_move rfl rfl) ?_
      refine L_v rfl rfl rfl (V_fieldAddr rfl rfl Tryd.underlying68 rfl sz9da rfl) ?_
      refine L_v rfl rfl rfl (V_load1 1 rfl rfl rfl Tryd.underlying9 rfl (by rfl)) ?_
      refine L_v rfl rfl rfl (V_fieldAddr rfl rfl Tryd.underlying68 rfl sz3da rfl) ?_
      refine L_v rfl rfl rfl (V_load1 1 rfl rfl rfl Tryd.underlying3 rfl (by rfl)) ?_
      refine L_mapUpdate 0 rfl rfl rfl rfl rfl rfl Tryd.underlying57 Tryd.underlying9 rfl hI (fun en2 ck2 hI2 => ?_)
      refine L_nil ?_
      change Kret _ _ _ Exit.normal _
      refine Kret_normal ?_
      refine ret0 rfl rfl  ?_
      exact fun w' h => ⟨_, _, rfl, h.fr, h.at (i := 0) rfl, by unfold doM; rw [if_neg (show ¬ c.2.1 = e0 from h2), if_pos (show c.1 = e0 from h1)]; exact hI2⟩
    ·
      first | (have h2 := of_decide_eq_true h2) | (have h2 := of_decide_eq_false h2) | skip
      have h2 : c.2.1 = e0 := Classical.not_not.1 h2
      refine J_skip ?_
      change Kret _ _ _ Exit.normal _
      refine Kret_normal ?_
      refine ret0 rfl rfl  ?_
      exact fun w' h => ⟨_, _, rfl, h.fr, h.at (i := 0) rfl, by unfold doM; rw [if_pos (show c.2.1 = e0 from h2), if_pos (show c.1 = e0 from h1)]; exact hI⟩

set_option maxHeartbeats 1000000 in
theorem change_w (b1 : Nat) (D : Dk) (H : DkH) (c : Ch) (w : World) {k : Nat} (hM : MemAt w (dkM b1 D H)) (hG : Good D H) (hW : WfD D k) (hd : D.down = false) (hk : k ≤ 1099511627776) :
    Calls Tryd.prog 31 #[.pointer (some ⟨b1, 0, none⟩), .agg (chV c).toArray] w fun e w' => DkP b1 D H w (D.chg c) (.int .i64 0) e w' := by
  have hn2 := hW.n2
  refine calls_of (args := [.pointer (some ⟨b1, 0, none⟩), .agg (chV c).toArray]) ((dkM b1 D H).map (·.1)) (dkM b1 D H) ([]) Tryd.func31 rfl rfl (okMem hM (by simp)) ?_
  refine J_seq ?_
  refine J_region ?_
  refine L_box rfl rfl rfl rfl rfl (fun b0 => ?_)
  refine L_pk ((b0, row 68 (chV c)) :: dkM b1 D H) (Pk.front _ _) ?_
  refine L_v rfl rfl rfl (V_assign rfl rfl) ?_
  refine L_nil ?_
  change J _ _ _ _
  refine J_seq ?_
  refine J_regionO (.pure 0 (.pure 1 (.pure 2 (.pure 3 (.pure 4 (.one 5 (.nil))))))) ([(b0, row 68 (chV c)), (b1, row 61 (dkC D H))]) _ (Pk.of_sub (List.Sublist.cons_cons _ (List.Sublist.cons_cons _ (List.nil_sublist _)))) (fun f hf => hf) rfl rfl (by kernel_rfl) ?_
  refine LO_v rfl rfl rfl rfl (V_loadT 0 (vs := chV c) rfl rfl rfl Tryd.underlying68 rfl sz68da (by kernel_rfl) (by kernel_rfl)) ?_
  refine LO_v rfl rfl rfl rfl (V_move rfl rfl) ?_
  refine LO_v rfl rfl rfl rfl (V_nilCheck rfl rfl) ?_
  refine LO_v rfl rfl rfl rfl (V_fieldAddr rfl rfl Tryd.underlying61 rfl sz57da rfl) ?_
  refine LO_v rfl rfl rfl rfl (V_load1 1 rfl rfl rfl Tryd.underlying57 rfl (by rfl)) ?_
  refine LO_s rfl rfl rfl (S_call rfl rfl rfl tx35da (fun w1 hw => (do_w H.mn H.en H.cn H.ln c w1 (hw.at (i := 2) rfl) hG.n).mono ?_))
  rintro e w' ⟨en', cn', rfl, hfr, hm', hI'⟩
  refine ⟨_, _, _, rfl, hw.set (i := 2) rfl hfr hm', rfl, (Pk.of_sub (List.Sublist.cons_cons _ (List.Sublist.cons_cons _ (List.nil_sublist _)))), (fun f hf => hf), ?_⟩
  refine LO_nil ?_
  change J _ _ _ _
  refine J_seq ?_
  refine J_regionO (.pure 0 (.pure 1 (.pure 2 (.pure 3 (.pure 5 (.two 4 (.one 6 (.one 7 (.pure 8 (.pure 9 (.one 10 (.nil)))))) 6 (.one 4 (.one 7 (.pure 8 (.pure 9 (.one 10 (.nil)))))))))))) ([(b0, row 68 (chV c))]) _ (Pk.of_sub (List.Sublist.cons_cons _ (List.nil_sublist _))) (fun f hf => hf) rfl rfl (by kernel_rfl) ?_
  refine LO_v rfl rfl rfl rfl (V_move rfl rfl) ?_
  refine LO_v rfl rfl rfl rfl (V_move rfl rfl) ?_
  refine LO_v rfl rfl rfl rfl (V_nilCheck rfl rfl) ?_
  refine LO_v rfl rfl rfl rfl (V_fieldAddr rfl rfl Tryd.underlying61 rfl sz59da rfl) ?_
  refine LO_v rfl rfl rfl rfl (V_loadT 0 (vs := chV c) rfl rfl rfl Tryd.underlying68 rfl sz68da (by kernel_rfl) (by kernel_rfl)) ?_
  refine LO_both ?_ ?_
  ·
    refine LO_s rfl rfl rfl (S_v rfl rfl (V_load1 1 rfl rfl rfl Tryd.underlying59 rfl (by rfl)) ⟨(Pk.of_sub (List.Sublist.cons_cons _ (List.nil_sublist _))), (fun f hf => hf), ?_⟩)
    refine LO_s rfl rfl rfl (S_buildSlice (vs := [(0, .agg (chV c).toArray)]) (l := chV c) rfl rfl rfl rfl (bsC _) (fun b2 => ⟨(Pk.of_sub (List.Sublist.cons_cons _ (List.nil_sublist _))), (fun f hf => hf), ?_⟩))
    refine LO_s rfl rfl rfl (S_appendP [(b0, row 68 (chV c)), (b1, row 61 (dkC D H)), (H.mn, .map en' cn'), (H.ms, .map H.es H.cs)] ((pM 65 H.qb (boR H.bs) ++ bytM H.bs) ++ [(b2, row 68 (chV c))]) H.qc (chR D.ch) (n := D.ch.length) (m := 1) (news := chV c) rfl rfl rfl rfl Tryd.underlying59 elC (by show (_ :: _ :: _ :: _ :: (_ ++ _)) ++ [_] = _; simp only [List.cons_append, List.append_assoc, List.nil_append]) hG.c (fun w1 hw => src_C Tryd.underlying59 (SlC.in (r := []) (fz := (0, 0)) hw (List.mem_append_right _ (List.mem_singleton.2 rfl)) rfl 1) (all_one (by kernel_rfl))) (by omega) (by omega) (fun q' hq' => ⟨(Pk.of_sub (List.Sublist.cons_cons _ (List.nil_sublist _))), (fun f hf => hf), ?_⟩))
    refine LO_v rfl rfl rfl rfl (V_nilCheck rfl rfl) ?_
    refine LO_v rfl rfl rfl rfl (V_fieldAddr rfl rfl Tryd.underlying61 rfl sz59da rfl) ?_
    refine LO_s rfl rfl rfl (S_store1 1 (l' := dkT D.room (pV H.qb H.bs.length) (.map (some H.mn)) (.map (some H.ms)) (pV q' (D.ch.length + 1)) D.down D.stops D.left) rfl rfl rfl rfl rfl rfl sz59da (Nat.le_of_ble_eq_true (by kernel_rfl)) (by kernel_rfl) ⟨(Pk.of_sub (List.Sublist.cons_cons _ (List.nil_sublist _))), (fun f hf => hf), ?_⟩)
    refine LO_nil ?_
    change J _ _ _ _
    refine J_seq ?_
    refine J_pk (dkM b1 { D with ch := D.ch ++ [c] } { H with en := en', cn := cn', ln := doM H.ln c, qc := q' }) (Pk.of_sub (by rw [chg_M]; exact List.Sublist.cons _ (List.Sublist.cons_cons _ (List.Sublist.cons_cons _ (List.Sublist.cons_cons _ (show List.Sublist (pM 68 q' _ ++ (pM 65 _ _ ++ bytM _)) (pM 68 q' _ ++ ((pM 65 _ _ ++ bytM _) ++ _)) from List.Sublist.append (List.Sublist.refl _) (List.sublist_append_left _ _))))))) ?_
    refine J_region ?_
    refine L_v rfl rfl rfl (V_move rfl rfl) ?_
    refine L_call rfl rfl rfl rfl tx33da (fun w1 hw => (step_w b1 { D with ch := D.ch ++ [c] } { H with en := en', cn := cn', ln := doM H.ln c, qc := q' } w1 (hw.at (i := 0) rfl) (fun hs => hW.lf hs hd)).mono ?_)
    rintro e w' ⟨rfl, hfr, hb'⟩
    refine ⟨_, _, _, rfl, hw.set (i := 0) rfl hfr hb', rfl, ?_⟩
    refine L_v rfl rfl rfl (V_assign rfl rfl) ?_
    refine L_nil ?_
    change J _ _ _ _
    refine J_ret ?_
    change Kret _ _ _ Exit.ret _
    refine ret1 rfl rfl (RV_t rfl) ?_
    exact fun w' h => ⟨{ H with en := en', cn := cn', ln := doM H.ln c, qc := q' }, rfl, (chg_good hG hW hI' hq').same rfl rfl rfl, Upd.of h rfl (Pk.of_sub (List.Sublist.refl _)) (fun f hf => by cases hf) (fun f hf => by cases hf)⟩
  ·
    refine LO_s rfl rfl rfl (S_buildSlice (vs := [(0, .agg (chV c).toArray)]) (l := chV c) rfl rfl rfl rfl (bsC _) (fun b2 => ⟨(Pk.of_sub (List.Sublist.cons_cons _ (List.nil_sublist _))), (fun f hf => hf), ?_⟩))
    refine LO_s rfl rfl rfl (S_v rfl rfl (V_load1 1 rfl rfl rfl Tryd.underlying59 rfl (by rfl)) ⟨(Pk.of_sub (List.Sublist.cons_cons _ (List.nil_sublist _))), (fun f hf => hf), ?_⟩)
    refine LO_s rfl rfl rfl (S_appendP [(b0, row 68 (chV c)), (b1, row 61 (dkC D H)), (H.mn, .map en' cn'), (H.ms, .map H.es H.cs)] ((pM 65 H.qb (boR H.bs) ++ bytM H.bs) ++ [(b2, row 68 (chV c))]) H.qc (chR D.ch) (n := D.ch.length) (m := 1) (news := chV c) rfl rfl rfl rfl Tryd.underlying59 elC (by show (_ :: _ :: _ :: _ :: (_ ++ _)) ++ [_] = _; simp only [List.cons_append, List.append_assoc, List.nil_append]) hG.c (fun w1 hw => src_C Tryd.underlying59 (SlC.in (r := []) (fz := (0, 0)) hw (List.mem_append_right _ (List.mem_singleton.2 rfl)) rfl 1) (all_one (by kernel_rfl))) (by omega) (by omega) (fun q' hq' => ⟨(Pk.of_sub (List.Sublist.cons_cons _ (List.nil_sublist _))), (fun f hf => hf), ?_⟩))
    refine LO_v rfl rfl rfl rfl (V_nilCheck rfl rfl) ?_
    refine LO_v rfl rfl rfl rfl (V_fieldAddr rfl rfl Tryd.underlying61 rfl sz59da rfl) ?_
    refine LO_s rfl rfl rfl (S_store1 1 (l' := dkT D.room (pV H.qb H.bs.length) (.map (some H.mn)) (.map (some H.ms)) (pV q' (D.ch.length + 1)) D.down D.stops D.left) rfl rfl rfl rfl rfl rfl sz59da (Nat.le_of_ble_eq_true (by kernel_rfl)) (by kernel_rfl) ⟨(Pk.of_sub (List.Sublist.cons_cons _ (List.nil_sublist _))), (fun f hf => hf), ?_⟩)
    refine LO_nil ?_
    change J _ _ _ _
    refine J_seq ?_
    refine J_pk (dkM b1 { D with ch := D.ch ++ [c] } { H with en := en', cn := cn', ln := doM H.ln c, qc := q' }) (Pk.of_sub (by rw [chg_M]; exact List.Sublist.cons _ (List.Sublist.cons_cons _ (List.Sublist.cons_cons _ (List.Sublist.cons_cons _ (show List.Sublist (pM 68 q' _ ++ (pM 65 _ _ ++ bytM _)) (pM 68 q' _ ++ ((pM 65 _ _ ++ bytM _) ++ _)) from List.Sublist.append (List.Sublist.refl _) (List.sublist_append_left _ _))))))) ?_
    refine J_region ?_
    refine L_v rfl rfl rfl (V_move rfl rfl) ?_
    refine L_call rfl rfl rfl rfl tx33da (fun w1 hw => (step_w b1 { D with ch := D.ch ++ [c] } { H with en := en', cn := cn', ln := doM H.ln c, qc := q' } w1 (hw.at (i := 0) rfl) (fun hs => hW.lf hs hd)).mono ?_)
    rintro e w' ⟨rfl, hfr, hb'⟩
    refine ⟨_, _, _, rfl, hw.set (i := 0) rfl hfr hb', rfl, ?_⟩
    refine L_v rfl rfl rfl (V_assign rfl rfl) ?_
    refine L_nil ?_
    change J _ _ _ _
    refine J_ret ?_
    change Kret _ _ _ Exit.ret _
    refine ret1 rfl rfl (RV_t rfl) ?_
    exact fun w' h => ⟨{ H with en := en', cn := cn', ln := doM H.ln c, qc := q' }, rfl, (chg_good hG hW hI' hq').same rfl rfl rfl, Upd.of h rfl (Pk.of_sub (List.Sublist.refl _)) (fun f hf => by cases hf) (fun f hf => by cases hf)⟩

end Go.Proofs.YtcbpgnjlbbjieaaDoor
