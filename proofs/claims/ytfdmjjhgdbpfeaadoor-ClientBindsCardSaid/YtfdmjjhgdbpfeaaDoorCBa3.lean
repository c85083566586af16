/- Part 3 of the texts that the law leans on. -/
import Derived.Test.YtfdmjjhgdbpfeaaDoorCBa1
import Derived.Test.YtfdmjjhgdbpfeaaDoorCBa2
/- What a version, and a history, is: in plain terms. -/
set_option linter.unusedVariables false
set_option linter.unusedSimpArgs false
namespace Go.Proofs.YtfdmjjhgdbpfeaaDoor
open Go.Sx

/-- A version: its epoch, its kind, its key. -/
abbrev Ver := Int × Int × ByteArray
def vc (v : Ver) : List Value := [.int .i64 v.1, .int .i64 v.2.1, .string v.2.2]
def vcs (l : List Ver) : List Value := l.flatMap vc
theorem vc_len (v : Ver) : (vc v).length = 3 := rfl
theorem vcs_len : ∀ l : List Ver, (vcs l).length = l.length * 3
  | [] => rfl
  | v :: l => by
    have := vcs_len l
    unfold vcs at *
    rw [List.flatMap_cons, List.length_append, this, vc_len, List.length_cons]
    omega
theorem vcs_app (a b : List Ver) : vcs (a ++ b) = vcs a ++ vcs b := by simp [vcs]
theorem vcs_one (v : Ver) : vcs [v] = vc v := by simp [vcs]
theorem vcs_take : ∀ (l : List Ver) (k : Nat), (vcs l).take (k * 3) = vcs (l.take k)
  | [], k => by simp [vcs]
  | v :: l, 0 => by simp [vcs]
  | v :: l, k + 1 => by
    have := vcs_take l k
    unfold vcs at *
    rw [List.flatMap_cons, List.take_succ_cons, List.flatMap_cons, ← this, List.take_append, vc_len, List.take_of_length_le (by rw [vc_len]; omega)]
    congr 2
    omega
theorem vcs_drop : ∀ (l : List Ver) (k : Nat), (vcs l).drop (k * 3) = vcs (l.drop k)
  | [], k => by simp [vcs]
  | v :: l, 0 => by simp [vcs]
  | v :: l, k + 1 => by
    have := vcs_drop l k
    unfold vcs at *
    rw [List.flatMap_cons, List.drop_succ_cons, ← this, List.drop_append, vc_len, List.drop_eq_nil_of_le (by rw [vc_len]; omega), List.nil_append]
    congr 1
    omega
def v0 : Ver := (0, 0, ⟨#[]⟩)
theorem vcs_get {l : List Ver} {i : Nat} (h : i < l.length) (j : Nat) (hj : j < 3) : (vcs l)[i * 3 + j]? = (vc (l.getD i v0))[j]? := by
  have h1 := vcs_drop l i
  have h2 : (vcs l)[i * 3 + j]? = ((vcs l).drop (i * 3))[j]? := by rw [List.getElem?_drop]
  rw [h2, h1, List.drop_eq_getElem_cons h]
  unfold vcs
  rw [List.flatMap_cons, List.getElem?_append_left (by rw [vc_len]; exact hj), List.getD_eq_getElem?_getD, List.getElem?_eq_getElem h]
  rfl
theorem vcs_e {l : List Ver} {i : Nat} (h : i < l.length) : (vcs l)[((i : Nat) : Int).toNat * (2 + 1)]? = some (.int .i64 (l.getD i v0).1) := by
  rw [Int.toNat_natCast]; exact vcs_get h 0 (by omega)
theorem vcs_k {l : List Ver} {i : Nat} (h : i < l.length) : (vcs l)[((i : Nat) : Int).toNat * (2 + 1) + 1]? = some (.int .i64 (l.getD i v0).2.1) := by
  rw [Int.toNat_natCast]; exact vcs_get h 1 (by omega)
theorem vcs_s {l : List Ver} {i : Nat} (h : i < l.length) : (vcs l)[((i : Nat) : Int).toNat * (2 + 1) + 2]? = some (.string (l.getD i v0).2.2) := by
  rw [Int.toNat_natCast]; exact vcs_get h 2 (by omega)
theorem vcs_v {l : List Ver} {i : Nat} (h : i < l.length) : ∀ k u, (vc (l.getD i v0))[k]? = some u → (vcs l)[((i : Nat) : Int).toNat * (2 + 1) + k]? = some u := by
  intro k u hk
  rw [Int.toNat_natCast, vcs_get h k (by have := (List.getElem?_eq_some_iff.1 hk).1; rw [vc_len] at this; exact this)]
  exact hk
theorem vcs_1 (l : List Ver) : ∀ u ∈ vcs l, u.oneCell' = true := by
  intro u hu
  obtain ⟨v, _, hv⟩ := List.mem_flatMap.1 hu
  simp only [vc, List.mem_cons, List.not_mem_nil, or_false] at hv
  rcases hv with rfl | rfl | rfl <;> rfl

/-! ### Histories -/
/-- May a version be? -/
def mayV (v : Ver) : Bool := decide (1 ≤ v.1 ∧ v.1 ≤ 200 ∧ ((v.2.1 = 1 ∨ v.2.1 = 2) ∧ 1 ≤ v.2.2.size ∧ v.2.2.size ≤ 64 ∨ v.2.1 = 3 ∧ v.2.2.size = 0))
def openV (v : Ver) : Bool := decide (v.2.1 = 0 ∨ v.2.1 = 3)
def lastV (l : List Ver) : Ver := l.getD (l.length - 1) v0
/-- May a version come behind one? -/
def nextV (was v : Ver) : Bool := mayV v && decide (was.1 ≤ v.1) && (openV was == decide (v.2.1 = 1))
/-- Do these come behind that one? -/
def fromV : Ver → List Ver → Bool
  | _, [] => true
  | was, v :: l => nextV was v && fromV v l
def isH (l : List Ver) : Bool := decide (l.length ≤ 16) && fromV v0 l
theorem fromV_app : ∀ (was : Ver) (l : List Ver) (v : Ver), fromV was (l ++ [v]) = (fromV was l && nextV ((was :: l).getLast (by simp)) v)
  | was, [], v => by simp [fromV]
  | was, x :: l, v => by
    have := fromV_app x l v
    simp only [List.cons_append, fromV, this, Bool.and_assoc]
    rfl
theorem fromV_pre : ∀ (was : Ver) (a b : List Ver), fromV was (a ++ b) = true → fromV was a = true
  | was, [], b, _ => rfl
  | was, x :: a, b, h => by
    simp only [List.cons_append, fromV, Bool.and_eq_true] at h ⊢
    exact ⟨h.1, fromV_pre x a b h.2⟩
theorem lastV_eq (l : List Ver) : (v0 :: l).getLast (by simp) = lastV l := by
  unfold lastV
  cases l with
  | nil => rfl
  | cons x l =>
    rw [List.getLast_cons (by simp), List.getLast_eq_getElem, List.getD_eq_getElem?_getD, List.getElem?_eq_getElem (by simp)]
    rfl
/-! ### What comes behind a list, what a list was -/
theorem mayV_kind {v : Ver} (h : mayV v = true) : v.2.1 = 1 ∨ v.2.1 = 2 ∨ v.2.1 = 3 := by
  unfold mayV at h
  have := of_decide_eq_true h
  omega
theorem mayV_ep {v : Ver} (h : mayV v = true) : 1 ≤ v.1 ∧ v.1 ≤ 200 := by
  unfold mayV at h
  have := of_decide_eq_true h
  omega
theorem mayV_key {v : Ver} (h : mayV v = true) : v.2.2.size ≤ 64 := by
  unfold mayV at h
  have := of_decide_eq_true h
  omega
theorem fromV_may : ∀ {was : Ver} {l : List Ver}, fromV was l = true → ∀ v ∈ l, mayV v = true
  | was, [], _, v, hv => by simp at hv
  | was, x :: l, h, v, hv => by
    simp only [fromV, nextV, Bool.and_eq_true] at h
    rcases List.mem_cons.1 hv with rfl | h2
    · exact h.1.1.1
    · exact fromV_may h.2 v h2
theorem isH_len {l : List Ver} (h : isH l = true) : l.length ≤ 16 := by
  unfold isH at h
  simp only [Bool.and_eq_true, decide_eq_true_eq] at h
  exact h.1
theorem isH_from {l : List Ver} (h : isH l = true) : fromV v0 l = true := by
  unfold isH at h
  simp only [Bool.and_eq_true, decide_eq_true_eq] at h
  exact h.2
theorem isH_pre {a b : List Ver} (h : isH (a ++ b) = true) : isH a = true := by
  unfold isH at h ⊢
  simp only [Bool.and_eq_true, decide_eq_true_eq, List.length_append] at h ⊢
  exact ⟨by omega, fromV_pre _ _ _ h.2⟩
theorem lastV_app (l : List Ver) (v : Ver) : lastV (l ++ [v]) = v := by
  unfold lastV
  rw [List.getD_eq_getElem?_getD]
  simp
theorem lastV_mem {l : List Ver} (h : l ≠ []) : lastV l ∈ l := by
  unfold lastV
  have : l.length - 1 < l.length := by have := List.length_pos_iff.2 h; omega
  rw [List.getD_eq_getElem?_getD, List.getElem?_eq_getElem this]
  exact List.getElem_mem this
theorem openV_last {l : List Ver} (h : isH l = true) : openV (lastV l) = decide (l.length = 0 ∨ (lastV l).2.1 = 3) := by
  unfold openV
  refine decide_eq_decide.2 ?_
  by_cases h0 : l = []
  · subst h0; simp [lastV, v0]
  · have h1 := mayV_kind (fromV_may (isH_from h) _ (lastV_mem h0))
    have h2 : l.length ≠ 0 := fun e => h0 (List.eq_nil_of_length_eq_zero e)
    omega
theorem isH_app (l : List Ver) (v : Ver) : isH (l ++ [v]) = (decide (l.length + 1 ≤ 16) && (fromV v0 l && nextV (lastV l) v)) := by
  unfold isH
  rw [fromV_app, lastV_eq]
  simp
/-- What a try to put a version behind a list tells. -/
def nextE (l : List Ver) (v : Ver) : Int :=
  if isH l = false ∨ mayV v = false ∨ v.1 < (lastV l).1 then 50
  else if v.2.1 = 1 ∧ openV (lastV l) = false then 51
  else if v.2.1 ≠ 1 ∧ openV (lastV l) = true then 52
  else if l.length = 16 then 2 else 0
theorem nextE_ok {l : List Ver} {v : Ver} (h : nextE l v = 0) : isH l = true ∧ mayV v = true ∧ (lastV l).1 ≤ v.1 ∧ openV (lastV l) = decide (v.2.1 = 1) ∧ l.length < 16 := by
  unfold nextE at h
  by_cases h1 : isH l = false ∨ mayV v = false ∨ v.1 < (lastV l).1
  · rw [if_pos h1] at h; omega
  · rw [if_neg h1] at h
    have h1' : isH l = true ∧ mayV v = true ∧ ¬ v.1 < (lastV l).1 := by
      refine ⟨?_, ?_, fun h2 => h1 (.inr (.inr h2))⟩
      · cases h3 : isH l
        · exact absurd (.inl h3) h1
        · rfl
      · cases h3 : mayV v
        · exact absurd (.inr (.inl h3)) h1
        · rfl
    have hlen := isH_len h1'.1
    by_cases h2 : v.2.1 = 1 ∧ openV (lastV l) = false
    · rw [if_pos h2] at h; omega
    · rw [if_neg h2] at h
      by_cases h3 : v.2.1 ≠ 1 ∧ openV (lastV l) = true
      · rw [if_pos h3] at h; omega
      · rw [if_neg h3] at h
        by_cases h4 : l.length = 16
        · rw [if_pos h4] at h; omega
        · refine ⟨h1'.1, h1'.2.1, by omega, ?_, by omega⟩
          by_cases h5 : v.2.1 = 1
          · cases h6 : openV (lastV l)
            · exact absurd ⟨h5, h6⟩ h2
            · simp [h5]
          · cases h6 : openV (lastV l)
            · simp [h5]
            · exact absurd ⟨h5, h6⟩ h3
theorem nextE_isH {l : List Ver} {v : Ver} (h : nextE l v = 0) : isH (l ++ [v]) = true := by
  obtain ⟨h1, h2, h3, h4, h5⟩ := nextE_ok h
  rw [isH_app, isH_from h1]
  unfold nextV
  rw [h2, h4]
  simp
  omega
theorem lastV_nil : lastV [] = v0 := rfl
/-- What a list was at an epoch. -/
def atV (l : List Ver) (e : Int) : List Ver := if isH l = true then l.takeWhile (fun v => decide (v.1 ≤ e)) else []
theorem atV_isH {l : List Ver} {e : Int} (h : isH l = true) : isH (atV l e) = true := by
  unfold atV
  rw [if_pos h]
  obtain ⟨t, ht⟩ := List.takeWhile_prefix (p := fun v : Ver => decide (v.1 ≤ e)) (l := l)
  rw [← ht] at h
  exact isH_pre h
theorem atV_app {l : List Ver} {v : Ver} {e : Int} (h : isH (l ++ [v]) = true) (hv : e < v.1) : atV (l ++ [v]) e = atV l e := by
  unfold atV
  rw [if_pos h, if_pos (isH_pre h), List.takeWhile_append]
  split
  · rename_i h1
    have : List.takeWhile (fun v : Ver => decide (v.1 ≤ e)) [v] = [] := by
      rw [List.takeWhile_cons, if_neg (by simp; omega)]
    rw [this, List.append_nil]
    exact ((List.takeWhile_prefix _).eq_of_length h1).symm
  · rfl
theorem atV_len (l : List Ver) (e : Int) : (atV l e).length ≤ l.length := by
  unfold atV
  split
  · exact (List.takeWhile_prefix _).length_le
  · exact Nat.zero_le _
/-- The active key. -/
def actV (l : List Ver) : ByteArray × Bool := if isH l = true ∧ openV (lastV l) = false then ((lastV l).2.2, true) else (⟨#[]⟩, false)
theorem take_v {l : List Ver} {i : Nat} (h : i < l.length) : l.take (i + 1) = l.take i ++ [l.getD i v0] := by
  rw [List.take_add_one, List.getD_eq_getElem?_getD, List.getElem?_eq_getElem h]
  rfl
theorem fromV_step {l : List Ver} {i : Nat} (h : i < l.length) : fromV v0 (l.take (i + 1)) = (fromV v0 (l.take i) && nextV (lastV (l.take i)) (l.getD i v0)) := by
  rw [take_v h, fromV_app, lastV_eq]
theorem fromV_no {l : List Ver} {i : Nat} (h : fromV v0 (l.take i) = false) : fromV v0 l = false := by
  cases h1 : fromV v0 l with
  | false => rfl
  | true =>
    have := fromV_pre v0 (l.take i) (l.drop i) (by rw [List.take_append_drop]; exact h1)
    rw [h] at this
    cases this
theorem chk_t {l : List Ver} {i : Nat} {d b : Bool} (hok : true = (d && fromV v0 (l.take i))) (h : i < l.length) (hb : b = nextV (lastV (l.take i)) (l.getD i v0)) : b = (d && fromV v0 (l.take (i + 1))) := by
  rw [fromV_step h, ← Bool.and_assoc, ← hok, Bool.true_and, hb]
theorem nextV_t {was v : Ver} (h1 : mayV v = true) (h2 : was.1 ≤ v.1) : (openV was == decide (v.2.1 = 1)) = nextV was v := by
  unfold nextV
  rw [h1, decide_eq_true h2, Bool.true_and, Bool.true_and]
theorem nextV_m {was v : Ver} (h1 : mayV v = false) : false = nextV was v := by
  unfold nextV
  rw [h1, Bool.false_and, Bool.false_and]
theorem nextV_e {was v : Ver} (h2 : ¬ was.1 ≤ v.1) : false = nextV was v := by
  unfold nextV
  rw [decide_eq_false h2, Bool.and_false, Bool.false_and]
theorem nextV_r {was v : Ver} (h1 : mayV v = true) (h2 : was.1 ≤ v.1) : (decide (was.2.1 = 0 ∨ was.2.1 = 3) == decide (v.2.1 = 1) && decide (v.2.1 = 1 ∨ v.2.1 = 2 ∨ v.2.1 = 3)) = nextV was v := by
  rw [← nextV_t h1 h2, decide_eq_true (mayV_kind h1), Bool.and_true]
  rfl
theorem isH_no {l : List Ver} {i : Nat} (h : fromV v0 (l.take i) = false) : isH l = false := by
  unfold isH
  rw [fromV_no h, Bool.and_false]
theorem isH_stop {l : List Ver} {i : Nat} (h : i < l.length) (hn : false = nextV (lastV (l.take i)) (l.getD i v0)) : isH l = false :=
  isH_no (i := i + 1) (by rw [fromV_step h, ← hn, Bool.and_false])
theorem tw_le (p : Ver → Bool) : ∀ (l : List Ver), (l.takeWhile p).length ≤ l.length := fun l => (List.takeWhile_prefix p).length_le
theorem tw_take (p : Ver → Bool) (l : List Ver) : l.take (l.takeWhile p).length = l.takeWhile p := by
  obtain ⟨t, ht⟩ := List.takeWhile_prefix (p := p) (l := l)
  have : l.take (l.takeWhile p).length = (l.takeWhile p ++ t).take (l.takeWhile p).length := by rw [ht]
  rw [this, List.take_left]
theorem tw_stop (p : Ver → Bool) : ∀ (l : List Ver) (i : Nat), i ≤ (l.takeWhile p).length → i < l.length → p (l.getD i v0) = false → (l.takeWhile p).length = i
  | [], i, _, h, _ => absurd h (Nat.not_lt_zero _)
  | v :: l, 0, _, _, h => by
    have h' : p v = false := h
    rw [List.takeWhile_cons, h']
    rfl
  | v :: l, i + 1, h1, h2, h3 => by
    rw [List.takeWhile_cons] at h1 ⊢
    cases hp : p v
    · rw [hp] at h1; simp at h1
    · rw [hp] at h1
      simp only [if_true, List.length_cons] at h1 ⊢
      rw [tw_stop p l i (by omega) (by simpa using h2) h3]
theorem tw_go (p : Ver → Bool) : ∀ (l : List Ver) (i : Nat), i ≤ (l.takeWhile p).length → i < l.length → p (l.getD i v0) = true → i + 1 ≤ (l.takeWhile p).length
  | [], i, _, h, _ => absurd h (Nat.not_lt_zero _)
  | v :: l, 0, _, _, h => by
    have h' : p v = true := h
    rw [List.takeWhile_cons, h']
    simp
  | v :: l, i + 1, h1, h2, h3 => by
    rw [List.takeWhile_cons] at h1 ⊢
    cases hp : p v
    · rw [hp] at h1; simp at h1
    · rw [hp] at h1
      simp only [if_true, List.length_cons] at h1 ⊢
      have := tw_go p l i (by omega) (by simpa using h2) h3
      omega
/-- How many of a list's versions are of an epoch at most. -/
def cntV (l : List Ver) (e : Int) : Nat := (l.takeWhile (fun v => decide (v.1 ≤ e))).length
theorem cnt_le (l : List Ver) (e : Int) : cntV l e ≤ l.length := tw_le _ l
theorem cnt_stop {l : List Ver} {e : Int} {i : Nat} (h : i ≤ cntV l e) (hi : i < l.length) (hv : e < (l.getD i v0).1) : cntV l e = i := tw_stop _ l i h hi (decide_eq_false (by omega))
theorem cnt_go {l : List Ver} {e : Int} {i : Nat} (h : i ≤ cntV l e) (hi : i < l.length) (hv : (l.getD i v0).1 ≤ e) : i + 1 ≤ cntV l e := tw_go _ l i h hi (decide_eq_true hv)
theorem atV_cnt {l : List Ver} {e : Int} (h : isH l = true) : atV l e = l.take (cntV l e) := by
  unfold atV cntV
  rw [if_pos h, tw_take]
theorem nextE_form {l : List Ver} {v : Ver} (h : isH l = false ∨ mayV v = false ∨ v.1 < (lastV l).1) : nextE l v = 50 := by
  unfold nextE
  rw [if_pos h]
theorem nextE_there {l : List Ver} {v : Ver} (h1 : isH l = true) (h2 : mayV v = true) (h3 : ¬ v.1 < (lastV l).1) (h4 : v.2.1 = 1) (h5 : openV (lastV l) = false) : nextE l v = 51 := by
  unfold nextE
  rw [if_neg (by simp [h1, h2, h3]), if_pos ⟨h4, h5⟩]
theorem nextE_none {l : List Ver} {v : Ver} (h1 : isH l = true) (h2 : mayV v = true) (h3 : ¬ v.1 < (lastV l).1) (h4 : v.2.1 ≠ 1) (h5 : openV (lastV l) = true) : nextE l v = 52 := by
  unfold nextE
  rw [if_neg (by simp [h1, h2, h3]), if_neg (fun h => h4 h.1), if_pos ⟨h4, h5⟩]
theorem nextE_lim {l : List Ver} {v : Ver} (h1 : isH l = true) (h2 : mayV v = true) (h3 : ¬ v.1 < (lastV l).1) (h4 : openV (lastV l) = decide (v.2.1 = 1)) : nextE l v = if l.length = 16 then 2 else 0 := by
  unfold nextE
  rw [if_neg (by simp [h1, h2, h3]), if_neg (fun h => by rw [h4, decide_eq_true h.1] at h; cases h.2), if_neg (fun h => by rw [h4, decide_eq_false h.1] at h; cases h.2)]
theorem actV_2 {l : List Ver} (h : isH l = true) : (actV l).2 = !openV (lastV l) := by
  unfold actV
  cases h2 : openV (lastV l)
  · rw [if_pos ⟨h, rfl⟩]; rfl
  · rw [if_neg (fun h3 => by cases h3.2)]; rfl
theorem actV_no {l : List Ver} (h : isH l = false) : actV l = (⟨#[]⟩, false) := by
  unfold actV
  rw [if_neg (fun h3 => by rw [h] at h3; cases h3.1)]
theorem last_ep {l : List Ver} {v : Ver} (h : l.length = 0) (hv : mayV v = true) : ¬ v.1 < (lastV l).1 := by
  rw [List.eq_nil_of_length_eq_zero h]
  have := (mayV_ep hv).1
  show ¬ v.1 < 0
  omega
/-- What a try hands back. -/
def nextL (l : List Ver) (v : Ver) : List Ver := if nextE l v = 0 then l ++ [v] else []
theorem nextL_ok {l : List Ver} {v : Ver} (h : nextE l v = 0) : nextL l v = l ++ [v] := if_pos h
theorem nextL_no {l : List Ver} {v : Ver} (h : nextE l v ≠ 0) : nextL l v = [] := if_neg h
theorem chkE (b : Bool) : (decide ((if b = true then (0 : Int) else 50) = 0) == b) = true := by cases b <;> decide
theorem keys_had {l : List Ver} {v : Ver} (h : nextE l v = 0) : (actV l).2 = decide (v.2.1 ≠ 1) := by
  obtain ⟨h1, _, _, h4, _⟩ := nextE_ok h
  rw [actV_2 h1, h4]
  simp
theorem keys_ok {l : List Ver} {v : Ver} (h : nextE l v = 0) : (actV (l ++ [v])).2 = decide (v.2.1 ≠ 3) := by
  have h1 := nextE_isH h
  rw [actV_2 h1, openV_last h1, lastV_app]
  simp
theorem keys_key {l : List Ver} {v : Ver} (h : nextE l v = 0) : (actV (l ++ [v])).1 = v.2.2 := by
  have h1 := nextE_isH h
  obtain ⟨_, h2, _, _, _⟩ := nextE_ok h
  unfold actV
  rw [lastV_app]
  by_cases h3 : openV v = false
  · rw [if_pos ⟨h1, h3⟩]
  · rw [if_neg (fun h => h3 h.2)]
    have h4 : openV v = true := by cases h5 : openV v; exact absurd h5 h3; rfl
    unfold openV at h4
    have h5 := of_decide_eq_true h4
    unfold mayV at h2
    have h6 := of_decide_eq_true h2
    have h7 : v.2.2.size = 0 := by omega
    apply ByteArray.ext
    exact (Array.eq_empty_of_size_eq_zero h7).symm
end Go.Proofs.YtfdmjjhgdbpfeaaDoor

/- Histories as bytes: plain facts. -/
set_option linter.unusedVariables false
set_option linter.unusedSimpArgs false
namespace Go.Proofs.YtfdmjjhgdbpfeaaDoor
open Go.Sx
def encV (v : Ver) : List Int := grp v.1 ++ grp v.2.1 ++ (grp v.2.2.size ++ bs v.2.2)
def encL (l : List Ver) : List Int := l.flatMap encV
def putB (l : List Ver) : List Int := grp l.length ++ encL l
theorem encL_snoc (l : List Ver) (v : Ver) : encL (l ++ [v]) = encL l ++ encV v := by simp [encL]
/-- One version that is read, and what is left; none: the text is none. -/
def rv1 (d : List Int) : Ver × List Int × Bool :=
  let d1 := d.drop (rc d).2.1.toNat
  let d2 := d1.drop (rc d1).2.1.toNat
  (((rc d).1, (rc d1).1, ba (rb d2).1), d2.drop (rb d2).2.1.toNat, decide ((rb d2).2.2 = 0))
/-- So many versions that are read behind a list. -/
def rvN : Nat → List Int → List Ver → Option (List Ver × List Int)
  | 0, d, l => some (l, d)
  | k + 1, d, l => match (rv1 d).2.2 with
    | true => rvN k (rv1 d).2.1 (l ++ [(rv1 d).1])
    | false => none
/-- A history that bytes are, or none. -/
def getV (b : List Int) : Option (List Ver) :=
  if (rc b).2.2 = 0 ∧ (rc b).1 ≤ 16 then
    match rvN (rc b).1.toNat (b.drop (rc b).2.1.toNat) [] with
    | some (l, []) => if isH l = true then some l else none
    | _ => none
  else none
theorem rb_rc {l : List Int} (h : (rb l).2.2 = 0) : (rc l).2.2 = 0 := by
  by_cases h1 : (rc l).2.2 = 0
  · exact h1
  · have e : rb l = ([], 0, (rc l).2.2) := by unfold rb; rw [if_pos h1]
    rw [e] at h
    exact h
theorem rc_none {l : List Int} (hb : Byt l) (h : (rc l).2.2 ≠ 0) : l.drop (rc l).2.1.toNat = l := by
  rcases rc_ok hb with ⟨h1, _⟩ | ⟨_, _, h2⟩
  · exact absurd h1 h
  · rw [h2]; rfl
theorem rc_split {l : List Int} (hb : Byt l) (h : (rc l).2.2 = 0) : l = grp (rc l).1 ++ l.drop (rc l).2.1.toNat := by
  obtain ⟨k, hk, _⟩ := rc_len hb
  have := rc_back hb h hk
  rw [← this, hk, Int.toNat_natCast, List.take_append_drop]
/-- All three parts are there if the last one is. -/
theorem rv1_ok {d : List Int} (hb : Byt d) (h : (rb ((d.drop (rc d).2.1.toNat).drop (rc (d.drop (rc d).2.1.toNat)).2.1.toNat)).2.2 = 0) : (rc d).2.2 = 0 ∧ (rc (d.drop (rc d).2.1.toNat)).2.2 = 0 := by
  have hb1 : Byt (d.drop (rc d).2.1.toNat) := hb.drop _
  have h2 : (rc (d.drop (rc d).2.1.toNat)).2.2 = 0 := by
    by_cases h3 : (rc (d.drop (rc d).2.1.toNat)).2.2 = 0
    · exact h3
    · rw [rc_none hb1 h3] at h
      exact absurd (rb_rc h) h3
  refine ⟨?_, h2⟩
  by_cases h3 : (rc d).2.2 = 0
  · exact h3
  · rw [rc_none hb h3] at h2
    exact absurd h2 h3
theorem rv1_back {d : List Int} (hb : Byt d) (h : (rv1 d).2.2 = true) : d = encV (rv1 d).1 ++ (rv1 d).2.1 := by
  unfold rv1 at h ⊢
  simp only at h ⊢
  have h1 := of_decide_eq_true h
  obtain ⟨h2, h3⟩ := rv1_ok hb h1
  have e1 := rc_split hb h2
  have hb1 : Byt (d.drop (rc d).2.1.toNat) := hb.drop _
  have e2 := rc_split hb1 h3
  have hb2 : Byt ((d.drop (rc d).2.1.toNat).drop (rc (d.drop (rc d).2.1.toNat)).2.1.toNat) := hb1.drop _
  rcases rb_ok hb2 with ⟨_, k, hk, hk2, _, hbt, hbk⟩ | ⟨h4, _⟩
  · unfold encV
    simp only
    rw [ba_size, bs_ba hbt, ← hbk, hk2, Int.toNat_natCast]
    conv => lhs; rw [e1, e2]
    rw [List.append_assoc, List.append_assoc, List.take_append_drop]
  · exact absurd h1 h4
theorem rv1_byt {d : List Int} (hb : Byt d) : Byt (rv1 d).2.1 := ((hb.drop _).drop _).drop _
theorem rvN_two : ∀ {k : Nat} {d : List Int} {acc l : List Ver} {rest : List Int}, Byt d → rvN k d acc = some (l, rest) → ∃ l', l = acc ++ l' ∧ l'.length = k ∧ d = encL l' ++ rest
  | 0, d, acc, l, rest, hb, h => by
    simp only [rvN, Option.some.injEq, Prod.mk.injEq] at h
    exact ⟨[], by rw [h.1, List.append_nil], rfl, by rw [h.2]; rfl⟩
  | k + 1, d, acc, l, rest, hb, h => by
    unfold rvN at h
    cases hq : (rv1 d).2.2
    · rw [hq] at h; cases h
    · rw [hq] at h
      obtain ⟨l', h1, h2, h3⟩ := rvN_two (rv1_byt hb) h
      refine ⟨(rv1 d).1 :: l', by rw [h1]; simp, by simp [h2], ?_⟩
      conv => lhs; rw [rv1_back hb hq, h3]
      simp [encL]
theorem getV_back {b : List Int} {l : List Ver} (hb : Byt b) (h : getV b = some l) : isH l = true ∧ putB l = b := by
  unfold getV at h
  by_cases h1 : (rc b).2.2 = 0 ∧ (rc b).1 ≤ 16
  · rw [if_pos h1] at h
    cases hq : rvN (rc b).1.toNat (b.drop (rc b).2.1.toNat) [] with
    | none => rw [hq] at h; cases h
    | some x =>
      obtain ⟨l2, rest⟩ := x
      rw [hq] at h
      cases rest with
      | cons y ys => cases h
      | nil =>
        simp only at h
        by_cases h2 : isH l2 = true
        · rw [if_pos h2] at h
          injection h with h
          subst h
          refine ⟨h2, ?_⟩
          obtain ⟨l', h3, h4, h5⟩ := rvN_two (hb.drop _) hq
          rw [List.nil_append] at h3
          subst h3
          have h0 : 0 ≤ (rc b).1 := by rcases rc_ok hb with ⟨_, h, _⟩ | ⟨_, h, _⟩ <;> omega
          unfold putB
          rw [List.append_nil] at h5
          rw [← h5, h4, Int.toNat_of_nonneg h0]
          exact (rc_split hb h1.1).symm
        · rw [if_neg h2] at h; cases h
  · rw [if_neg h1] at h; cases h
theorem rv1_put {v : Ver} (rest : List Int) (he : 0 ≤ v.1 ∧ v.1 ≤ 2147483647) (hk : 0 ≤ v.2.1 ∧ v.2.1 ≤ 2147483647) (hs : v.2.2.size ≤ 65536) : rv1 (encV v ++ rest) = (v, rest, true) := by
  have h1 : rc (encV v ++ rest) = (v.1, ((grp v.1).length : Int), 0) := by
    unfold encV
    rw [List.append_assoc, List.append_assoc]
    exact rc_grp _ he.1 he.2
  have h2 : (encV v ++ rest).drop (grp v.1).length = grp v.2.1 ++ ((grp v.2.2.size ++ bs v.2.2) ++ rest) := by
    unfold encV
    rw [List.append_assoc, List.append_assoc, List.drop_left]
  have h3 : rc (grp v.2.1 ++ ((grp v.2.2.size ++ bs v.2.2) ++ rest)) = (v.2.1, ((grp v.2.1).length : Int), 0) := rc_grp _ hk.1 hk.2
  have h4 := rb_put (x := bs v.2.2) rest (by rw [bs_length]; exact hs)
  rw [bs_length] at h4
  unfold rv1
  simp only [h1, Int.toNat_natCast, h2, h3, List.drop_left, h4]
  have e : (((grp v.2.2.size).length : Int) + v.2.2.size).toNat = (grp v.2.2.size ++ bs v.2.2).length := by rw [List.length_append, bs_length]; omega
  rw [e, List.drop_left, ba_bs]
  simp
theorem rvN_put : ∀ (l acc : List Ver) (rest : List Int), (∀ v ∈ l, (0 ≤ v.1 ∧ v.1 ≤ 2147483647) ∧ (0 ≤ v.2.1 ∧ v.2.1 ≤ 2147483647) ∧ v.2.2.size ≤ 65536) → rvN l.length (encL l ++ rest) acc = some (acc ++ l, rest)
  | [], acc, rest, _ => by simp [rvN, encL]
  | v :: l, acc, rest, h => by
    obtain ⟨h1, h2, h3⟩ := h v (List.mem_cons_self ..)
    have e : encL (v :: l) ++ rest = encV v ++ (encL l ++ rest) := by simp [encL]
    rw [List.length_cons, e]
    unfold rvN
    rw [rv1_put _ h1 h2 h3]
    simp only
    rw [rvN_put l _ rest (fun x hx => h x (List.mem_cons_of_mem _ hx))]
    simp
theorem getV_put {l : List Ver} (h : isH l = true) : getV (putB l) = some l := by
  have hl := isH_len h
  have hm : ∀ v ∈ l, (0 ≤ v.1 ∧ v.1 ≤ 2147483647) ∧ (0 ≤ v.2.1 ∧ v.2.1 ≤ 2147483647) ∧ v.2.2.size ≤ 65536 := fun v hv => by
    have h1 := fromV_may (isH_from h) v hv
    have h2 := mayV_ep h1
    have h3 := mayV_kind h1
    have h4 := mayV_key h1
    omega
  have h1 : rc (putB l) = ((l.length : Int), ((grp l.length).length : Int), 0) := rc_grp _ (by omega) (by omega)
  have h2 := rvN_put l [] [] hm
  rw [List.append_nil, List.nil_append] at h2
  unfold getV
  rw [h1, if_pos ⟨rfl, by show (l.length : Int) ≤ 16; omega⟩]
  simp only [Int.toNat_natCast]
  unfold putB
  rw [List.drop_left, h2]
  simp only
  rw [if_pos h]
end Go.Proofs.YtfdmjjhgdbpfeaaDoor
