/- Histories as bytes: plain facts. -/
import Derived.Test.YthafhiemecfjiaaDoorVersionPure
import Derived.Test.YthafhiemecfjiaaDoorOctetPure
set_option linter.unusedVariables false
set_option linter.unusedSimpArgs false
namespace Go.Proofs.YthafhiemecfjiaaDoor
open Go.Sx
def encV (v : Ver) : List Int := grp v.1 ++ grp v.2.1 ++ (grp v.2.2.size ++ bs v.2.2)
def encL (l : List Ver) : List Int := l.flatMap encV
def putB (l : List Ver) : List Int := grp l.length ++ encL l
theorem encL_snoc (l : List Ver) (v : Ver) : encL (l ++ [v]) = encL l ++ encV v := by simp [encL]
/-- One version that is read, and what is left; none: the text is none. -/
def rv1 (d : List Int) : Ver × List Int × Bool :=
  let d1 := d.drop (rc d).2.1.toNat
  let d2 := d1.drop (rc d1).2.1.toNat
  (((rc d).1, (rc d1).1, ba (rb d2).1), d2.drop (rb d2).2.1.toNat, decide ((rb d2).2.2 = 0))
/-- So many versions that are read behind a list. -/
def rvN : Nat → List Int → List Ver → Option (List Ver × List Int)
  | 0, d, l => some (l, d)
  | k + 1, d, l => match (rv1 d).2.2 with
    | true => rvN k (rv1 d).2.1 (l ++ [(rv1 d).1])
    | false => none
/-- A history that bytes are, or none. -/
def getV (b : List Int) : Option (List Ver) :=
  if (rc b).2.2 = 0 ∧ (rc b).1 ≤ 16 then
    match rvN (rc b).1.toNat (b.drop (rc b).2.1.toNat) [] with
    | some (l, []) => if isH l = true then some l else none
    | _ => none
  else none
theorem rb_rc {l : List Int} (h : (rb l).2.2 = 0) : (rc l).2.2 = 0 := by
  by_cases h1 : (rc l).2.2 = 0
  · exact h1
  · have e : rb l = ([], 0, (rc l).2.2) := by unfold rb; rw [if_pos h1]
    rw [e] at h
    exact h
theorem rc_none {l : List Int} (hb : Byt l) (h : (rc l).2.2 ≠ 0) : l.drop (rc l).2.1.toNat = l := by
  rcases rc_ok hb with ⟨h1, _⟩ | ⟨_, _, h2⟩
  · exact absurd h1 h
  · rw [h2]; rfl
theorem rc_split {l : List Int} (hb : Byt l) (h : (rc l).2.2 = 0) : l = grp (rc l).1 ++ l.drop (rc l).2.1.toNat := by
  obtain ⟨k, hk, _⟩ := rc_len hb
  have := rc_back hb h hk
  rw [← this, hk, Int.toNat_natCast, List.take_append_drop]
/-- All three parts are there if the last one is. -/
theorem rv1_ok {d : List Int} (hb : Byt d) (h : (rb ((d.drop (rc d).2.1.toNat).drop (rc (d.drop (rc d).2.1.toNat)).2.1.toNat)).2.2 = 0) : (rc d).2.2 = 0 ∧ (rc (d.drop (rc d).2.1.toNat)).2.2 = 0 := by
  have hb1 : Byt (d.drop (rc d).2.1.toNat) := hb.drop _
  have h2 : (rc (d.drop (rc d).2.1.toNat)).2.2 = 0 := by
    by_cases h3 : (rc (d.drop (rc d).2.1.toNat)).2.2 = 0
    · exact h3
    · rw [rc_none hb1 h3] at h
      exact absurd (rb_rc h) h3
  refine ⟨?_, h2⟩
  by_cases h3 : (rc d).2.2 = 0
  · exact h3
  · rw [rc_none hb h3] at h2
    exact absurd h2 h3
theorem rv1_back {d : List Int} (hb : Byt d) (h : (rv1 d).2.2 = true) : d = encV (rv1 d).1 ++ (rv1 d).2.1 := by
  unfold rv1 at h ⊢
  simp only at h ⊢
  have h1 := of_decide_eq_true h
  obtain ⟨h2, h3⟩ := rv1_ok hb h1
  have e1 := rc_split hb h2
  have hb1 : Byt (d.drop (rc d).2.1.toNat) := hb.drop _
  have e2 := rc_split hb1 h3
  have hb2 : Byt ((d.drop (rc d).2.1.toNat).drop (rc (d.drop (rc d).2.1.toNat)).2.1.toNat) := hb1.drop _
  rcases rb_ok hb2 with ⟨_, k, hk, hk2, _, hbt, hbk⟩ | ⟨h4, _⟩
  · unfold encV
    simp only
    rw [ba_size, bs_ba hbt, ← hbk, hk2, Int.toNat_natCast]
    conv => lhs; rw [e1, e2]
    rw [List.append_assoc, List.append_assoc, List.take_append_drop]
  · exact absurd h1 h4
theorem rv1_byt {d : List Int} (hb : Byt d) : Byt (rv1 d).2.1 := ((hb.drop _).drop _).drop _
theorem rvN_two : ∀ {k : Nat} {d : List Int} {acc l : List Ver} {rest : List Int}, Byt d → rvN k d acc = some (l, rest) → ∃ l', l = acc ++ l' ∧ l'.length = k ∧ d = encL l' ++ rest
  | 0, d, acc, l, rest, hb, h => by
    simp only [rvN, Option.some.injEq, Prod.mk.injEq] at h
    exact ⟨[], by rw [h.1, List.append_nil], rfl, by rw [h.2]; rfl⟩
  | k + 1, d, acc, l, rest, hb, h => by
    unfold rvN at h
    cases hq : (rv1 d).2.2
    · rw [hq] at h; cases h
    · rw [hq] at h
      obtain ⟨l', h1, h2, h3⟩ := rvN_two (rv1_byt hb) h
      refine ⟨(rv1 d).1 :: l', by rw [h1]; simp, by simp [h2], ?_⟩
      conv => lhs; rw [rv1_back hb hq, h3]
      simp [encL]
theorem getV_back {b : List Int} {l : List Ver} (hb : Byt b) (h : getV b = some l) : isH l = true ∧ putB l = b := by
  unfold getV at h
  by_cases h1 : (rc b).2.2 = 0 ∧ (rc b).1 ≤ 16
  · rw [if_pos h1] at h
    cases hq : rvN (rc b).1.toNat (b.drop (rc b).2.1.toNat) [] with
    | none => rw [hq] at h; cases h
    | some x =>
      obtain ⟨l2, rest⟩ := x
      rw [hq] at h
      cases rest with
      | cons y ys => cases h
      | nil =>
        simp only at h
        by_cases h2 : isH l2 = true
        · rw [if_pos h2] at h
          injection h with h
          subst h
          refine ⟨h2, ?_⟩
          obtain ⟨l', h3, h4, h5⟩ := rvN_two (hb.drop _) hq
          rw [List.nil_append] at h3
          subst h3
          have h0 : 0 ≤ (rc b).1 := by rcases rc_ok hb with ⟨_, h, _⟩ | ⟨_, h, _⟩ <;> omega
          unfold putB
          rw [List.append_nil] at h5
          rw [← h5, h4, Int.toNat_of_nonneg h0]
          exact (rc_split hb h1.1).symm
        · rw [if_neg h2] at h; cases h
  · rw [if_neg h1] at h; cases h
theorem rv1_put {v : Ver} (rest : List Int) (he : 0 ≤ v.1 ∧ v.1 ≤ 2147483647) (hk : 0 ≤ v.2.1 ∧ v.2.1 ≤ 2147483647) (hs : v.2.2.size ≤ 65536) : rv1 (encV v ++ rest) = (v, rest, true) := by
  have h1 : rc (encV v ++ rest) = (v.1, ((grp v.1).length : Int), 0) := by
    unfold encV
    rw [List.append_assoc, List.append_assoc]
    exact rc_grp _ he.1 he.2
  have h2 : (encV v ++ rest).drop (grp v.1).length = grp v.2.1 ++ ((grp v.2.2.size ++ bs v.2.2) ++ rest) := by
    unfold encV
    rw [List.append_assoc, List.append_assoc, List.drop_left]
  have h3 : rc (grp v.2.1 ++ ((grp v.2.2.size ++ bs v.2.2) ++ rest)) = (v.2.1, ((grp v.2.1).length : Int), 0) := rc_grp _ hk.1 hk.2
  have h4 := rb_put (x := bs v.2.2) rest (by rw [bs_length]; exact hs)
  rw [bs_length] at h4
  unfold rv1
  simp only [h1, Int.toNat_natCast, h2, h3, List.drop_left, h4]
  have e : (((grp v.2.2.size).length : Int) + v.2.2.size).toNat = (grp v.2.2.size ++ bs v.2.2).length := by rw [List.length_append, bs_length]; omega
  rw [e, List.drop_left, ba_bs]
  simp
theorem rvN_put : ∀ (l acc : List Ver) (rest : List Int), (∀ v ∈ l, (0 ≤ v.1 ∧ v.1 ≤ 2147483647) ∧ (0 ≤ v.2.1 ∧ v.2.1 ≤ 2147483647) ∧ v.2.2.size ≤ 65536) → rvN l.length (encL l ++ rest) acc = some (acc ++ l, rest)
  | [], acc, rest, _ => by simp [rvN, encL]
  | v :: l, acc, rest, h => by
    obtain ⟨h1, h2, h3⟩ := h v (List.mem_cons_self ..)
    have e : encL (v :: l) ++ rest = encV v ++ (encL l ++ rest) := by simp [encL]
    rw [List.length_cons, e]
    unfold rvN
    rw [rv1_put _ h1 h2 h3]
    simp only
    rw [rvN_put l _ rest (fun x hx => h x (List.mem_cons_of_mem _ hx))]
    simp
theorem getV_put {l : List Ver} (h : isH l = true) : getV (putB l) = some l := by
  have hl := isH_len h
  have hm : ∀ v ∈ l, (0 ≤ v.1 ∧ v.1 ≤ 2147483647) ∧ (0 ≤ v.2.1 ∧ v.2.1 ≤ 2147483647) ∧ v.2.2.size ≤ 65536 := fun v hv => by
    have h1 := fromV_may (isH_from h) v hv
    have h2 := mayV_ep h1
    have h3 := mayV_kind h1
    have h4 := mayV_key h1
    omega
  have h1 : rc (putB l) = ((l.length : Int), ((grp l.length).length : Int), 0) := rc_grp _ (by omega) (by omega)
  have h2 := rvN_put l [] [] hm
  rw [List.append_nil, List.nil_append] at h2
  unfold getV
  rw [h1, if_pos ⟨rfl, by show (l.length : Int) ≤ 16; omega⟩]
  simp only [Int.toNat_natCast]
  unfold putB
  rw [List.drop_left, h2]
  simp only
  rw [if_pos h]
end Go.Proofs.YthafhiemecfjiaaDoor
