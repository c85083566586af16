/- What comes of what is right is right: plain facts, no program in sight. -/
import Derived.Test.YtcdenfkbhefbbaaV11
set_option linter.unusedVariables false
set_option linter.unusedSimpArgs false
set_option maxRecDepth 100000
namespace Go.Proofs.Ytcdenfkbhefbbaa
open Go.Sx
/-! ### Which records are laid -/
def tokB : Tok → Bool
  | .c n => decide (0 ≤ n ∧ n ≤ 2147483647)
  | .s x => decide (x.size ≤ 65536)
  | .d _ => true
  | .ln n => decide (n ≤ 4096)
theorem tok_ok (t : Tok) : (∃ M, encT t = .ok M) ↔ tokB t = true := by
  cases t <;> simp only [encT, tokB, decide_eq_true_eq]
  · rename_i n
    by_cases h : 0 ≤ n ∧ n ≤ 2147483647 <;> simp [h]
  · rename_i x
    by_cases h : x.size ≤ 65536 <;> simp [h]
  · simp
  · rename_i n
    by_cases h : n ≤ 4096 <;> simp [h]
theorem toks_ok : ∀ l : List Tok, (∃ M, encTs l = .ok M) ↔ l.all tokB = true
  | [] => ⟨fun _ => rfl, fun _ => ⟨[], rfl⟩⟩
  | t :: l => by
    rw [List.all_cons, Bool.and_eq_true, ← tok_ok, ← toks_ok l]
    constructor
    · rintro ⟨M, h⟩
      obtain ⟨x, y, h1, h2, _⟩ := then2_ok (show then2 (encT t) (encTs l) = .ok M from h)
      exact ⟨⟨x, h1⟩, ⟨y, h2⟩⟩
    · rintro ⟨⟨x, h1⟩, ⟨y, h2⟩⟩
      refine ⟨x ++ y, ?_⟩
      show then2 (encT t) (encTs l) = _
      rw [h1, h2]
      rfl
theorem okR_all (x : Rec) : okR x = (recC.tk x).all tokB := by
  rw [Bool.eq_iff_iff, ← toks_ok]
  unfold okR
  cases h : encTs (recC.tk x) with
  | ok M => exact ⟨fun _ => ⟨M, rfl⟩, fun _ => rfl⟩
  | error k => exact ⟨fun h2 => (by cases h2), fun ⟨M, h2⟩ => nomatch h2⟩
/-! ### What is right stays right -/
theorem ad_may {s : Sv} {r : Rec} (h : adE s r = 0) : okR r = true ∧ MayR r := Classical.byContradiction fun hn => by
  have h1 : adE s r = 110 := if_neg hn
  rw [h1] at h
  cases h
theorem ad_1 {s : Sv} {t v : Int} (h : adE s (tR t v) = 0) : ¬ t < s.term ∧ ¬ far t ∧ ¬ far v := by
  rw [adE_1 (ad_may h) rfl] at h
  split at h
  · cases h
  · rename_i h1
    exact ⟨fun h => h1 (.inl h), fun h => h1 (.inr (.inl h)), fun h => h1 (.inr (.inr h))⟩
theorem ad_2 {s : Sv} {e : En} (h : adE s (eR e) = 0) : e.1 = lastS s + 1 ∧ ¬ far e.1 ∧ s.ents.length ≠ 9000 := by
  rw [adE_2 (ad_may h) rfl] at h
  split at h
  · cases h
  · rename_i h1
    split at h
    · cases h
    · rename_i h2
      exact ⟨Classical.byContradiction fun h => h1 (.inl h), fun h => h1 (.inr h), h2⟩
theorem ad_3 {s : Sv} {i : Int} (h : adE s (cR i) = 0) : s.snap.1 < i ∧ i ≤ lastS s := by
  rw [adE_3 (ad_may h) rfl] at h
  split at h
  · cases h
  · rename_i h1
    have a : ¬ i ≤ s.snap.1 := fun h => h1 (.inl h)
    have b : ¬ lastS s < i := fun h => h1 (.inr h)
    exact ⟨by omega, by omega⟩
theorem ad_4 {s : Sv} {x : Sn} (h : adE s (nR x) = 0) : s.snap.1 < x.1 ∧ ¬ far x.1 := by
  rw [adE_4 (ad_may h) rfl] at h
  split at h
  · cases h
  · rename_i h1
    have a : ¬ x.1 ≤ s.snap.1 := fun h => h1 (.inl h)
    exact ⟨by omega, fun h => h1 (.inr h)⟩
theorem ad_5 {s : Sv} {x : Sg} (h : adE s (gR x) = 0) : (0 < s.sgs.length → (s.sgs.getD (s.sgs.length - 1) sg0).1.1 < x.1.1) ∧ s.sgs.length ≠ 200 := by
  rw [adE_5 (ad_may h) rfl] at h
  split at h
  · cases h
  · rename_i h1
    split at h
    · cases h
    · rename_i h2
      exact ⟨fun h3 => Int.not_le.1 fun h4 => h1 ⟨h3, h4⟩, h2⟩
theorem getD_l {α : Type} {a b : List α} {i : Nat} {d : α} (h : i < a.length) : (a ++ b).getD i d = a.getD i d := by
  rw [List.getD_eq_getElem?_getD, List.getD_eq_getElem?_getD, List.getElem?_append_left h]
theorem getD_e {α : Type} {a : List α} {x d : α} : (a ++ [x]).getD a.length d = x := by
  rw [List.getD_eq_getElem?_getD, List.getElem?_append_right (Nat.le_refl _), Nat.sub_self]
  rfl
theorem cutS_or (s : Sv) (x : Sn) : (∃ j, j < s.ents.length ∧ cutS s x = j + 1 ∧ (s.ents.getD j en0).1 = x.1) ∨ cutS s x = s.ents.length := by
  unfold cutS
  cases h : s.ents.findIdx? (fun e => decide (e.1 = x.1 ∧ e.2.1 = x.2.1)) with
  | none => exact .inr rfl
  | some j =>
    obtain ⟨h1, h2, _⟩ := List.findIdx?_eq_some_iff_getElem.1 h
    refine .inl ⟨j, h1, rfl, ?_⟩
    rw [List.getD_eq_getElem?_getD, List.getElem?_eq_getElem h1]
    exact (of_decide_eq_true h2).1
theorem base0 {s : Sv} (h : baseP s) : 0 ≤ s.snap.1 := by
  rcases h.2.2.2.2.2 with h1 | h1
  · exact Int.le_of_lt h1
  · rw [h1]; exact Int.le_refl 0
theorem right_fold {s : Sv} {r : Rec} (h : RightS s) (h0 : adE s r = 0) : RightS (foldS s r) := by
  obtain ⟨⟨b1, b2, b3, b4, b5, b6⟩, hg, hr, t1, t2, t3, t4⟩ := h
  obtain ⟨hok, hm⟩ := ad_may h0
  have b0 : 0 ≤ s.snap.1 := base0 ⟨b1, b2, b3, b4, b5, b6⟩
  rcases hm with ⟨t, v, rfl⟩ | ⟨e, rfl⟩ | ⟨i, rfl⟩ | ⟨x, rfl⟩ | ⟨x, rfl⟩
  · obtain ⟨a1, a2, a3⟩ := ad_1 h0
    exact ⟨⟨b1, b2, a2, a3, b5, b6⟩, hg, hr, hok, t2, t3, t4⟩
  · obtain ⟨a1, a2, a3⟩ := ad_2 h0
    refine ⟨⟨?_, b2, b3, b4, b5, b6⟩, fun i hi => ?_, hr, t1, t2, fun e' he => ?_, t4⟩
    · show (s.ents ++ [e]).length ≤ 9000
      rw [List.length_append, List.length_singleton]
      omega
    · have hi' : i < (s.ents ++ [e]).length := hi
      show ((s.ents ++ [e]).getD i en0).1 - 1 - i = s.snap.1
      rw [List.length_append, List.length_singleton] at hi'
      by_cases h1 : i < s.ents.length
      · rw [getD_l h1]
        exact hg i h1
      · obtain rfl : i = s.ents.length := by omega
        rw [getD_e, a1]
        unfold lastS
        omega
    · rcases List.mem_append.1 (show e' ∈ s.ents ++ [e] from he) with h1 | h1
      · exact t3 e' h1
      · obtain rfl := List.mem_singleton.1 h1
        exact hok
  · obtain ⟨a1, a2⟩ := ad_3 h0
    refine ⟨⟨?_, b2, b3, b4, b5, b6⟩, fun j hj => ?_, hr, t1, t2, fun e' he => ?_, t4⟩
    · show (s.ents.take _).length ≤ 9000
      rw [List.length_take]
      omega
    · have hj' : j < (s.ents.take (i - s.snap.1 - 1).toNat).length := hj
      rw [List.length_take] at hj'
      show ((s.ents.take (i - s.snap.1 - 1).toNat).getD j en0).1 - 1 - j = s.snap.1
      rw [List.getD_eq_getElem?_getD, List.getElem?_take_of_lt (by omega), ← List.getD_eq_getElem?_getD]
      exact hg j (by omega)
    · exact t3 e' (List.mem_of_mem_take (show e' ∈ s.ents.take _ from he))
  · obtain ⟨a1, a2⟩ := ad_4 h0
    refine ⟨⟨?_, b2, b3, b4, a2, .inl (by show 0 < x.1; omega)⟩, fun j hj => ?_, hr, t1, fun _ => hok, fun e' he => ?_, t4⟩
    · show (s.ents.drop _).length ≤ 9000
      rw [List.length_drop]
      omega
    · have hj' : j < (s.ents.drop (cutS s x)).length := hj
      rw [List.length_drop] at hj'
      show ((s.ents.drop (cutS s x)).getD j en0).1 - 1 - j = x.1
      rw [List.getD_eq_getElem?_getD, List.getElem?_drop, ← List.getD_eq_getElem?_getD]
      have h1 := hg (cutS s x + j) (by omega)
      rcases cutS_or s x with ⟨k, hk, hc, hx⟩ | hc
      · have h2 := hg k hk
        rw [hx] at h2
        rw [hc] at h1 ⊢
        omega
      · omega
    · exact t3 e' (List.mem_of_mem_drop (show e' ∈ s.ents.drop _ from he))
  · obtain ⟨a1, a2⟩ := ad_5 h0
    refine ⟨⟨b1, ?_, b3, b4, b5, b6⟩, hg, fun i hi hl => ?_, t1, t2, t3, fun x' hx => ?_⟩
    · show (s.sgs ++ [x]).length ≤ 200
      rw [List.length_append, List.length_singleton]
      omega
    · have hl' : i < (s.sgs ++ [x]).length := hl
      rw [List.length_append, List.length_singleton] at hl'
      show ((s.sgs ++ [x]).getD (i - 1) sg0).1.1 < ((s.sgs ++ [x]).getD i sg0).1.1
      rw [getD_l (by omega)]
      by_cases h1 : i < s.sgs.length
      · rw [getD_l h1]
        exact hr i hi h1
      · obtain rfl : i = s.sgs.length := by omega
        rw [getD_e]
        exact a1 hi
    · rcases List.mem_append.1 (show x' ∈ s.sgs ++ [x] from hx) with h1 | h1
      · exact t4 x' h1
      · obtain rfl := List.mem_singleton.1 h1
        exact hok
/-! ### What a fold answers -/
theorem right_e (s : Sv) : chkN s.term s.vote s.snap (s.ents.map fun e => (e, spN, spN)) s.sgs = 0 ↔ RightS s := by
  rw [chk_right]
  unfold svO
  rw [List.map_map, show (Prod.fst ∘ fun e : En => ((e, spN, spN) : EnV)) = id from rfl, List.map_id]
instance (s : Sv) : Decidable (RightS s) := decidable_of_iff _ (right_e s)
def foldQ (s : Sv) (r : Rec) : Int := if RightS s then adE s r else 1
def foldV (s : Sv) (r : Rec) : Sv := if foldQ s r = 0 then foldS s r else sv0
theorem foldK_Q (S : SvS) (r : Rec) : foldK S r = foldQ S.sv r := by
  unfold foldK foldQ
  by_cases h : RightS S.sv
  · rw [if_pos h, if_pos h]
  · rw [if_neg h, if_neg h]
theorem foldQ_yes {s : Sv} {r : Rec} (h : RightS s) : foldQ s r = adE s r := if_pos h
theorem foldQ_0 {s : Sv} {r : Rec} (h : foldQ s r = 0) : RightS s ∧ adE s r = 0 := by
  unfold foldQ at h
  split at h
  · rename_i h1; exact ⟨h1, h⟩
  · cases h
/-- What a law wants to know of it. -/
theorem fold_last {s : Sv} {r : Rec} (h : foldQ s r = 0) :
    RightS (foldS s r) ∧ s.term ≤ (foldS s r).term ∧ s.sgs.length ≤ (foldS s r).sgs.length ∧ (∀ i, i < s.sgs.length → (foldS s r).sgs.getD i sg0 = s.sgs.getD i sg0) ∧
    (r.1 = 2 → lastS (foldS s r) = r.2.2.2.1.1 ∧ lastS (foldS s r) = lastS s + 1) ∧ (r.1 = 3 → lastS (foldS s r) = r.2.2.2.2.1 - 1) ∧
    (r.1 = 4 → (foldS s r).snap.1 = r.2.2.2.2.2.1.1 ∧ (lastS (foldS s r) = lastS s ∨ lastS (foldS s r) = r.2.2.2.2.2.1.1)) ∧ (r.1 ≠ 2 → r.1 ≠ 3 → r.1 ≠ 4 → lastS (foldS s r) = lastS s) := by
  obtain ⟨hR, h0⟩ := foldQ_0 h
  have hR' := right_fold hR h0
  obtain ⟨hok, hm⟩ := ad_may h0
  have hg := hR.2.1
  rcases hm with ⟨t, v, rfl⟩ | ⟨e, rfl⟩ | ⟨i, rfl⟩ | ⟨x, rfl⟩ | ⟨x, rfl⟩
  · obtain ⟨a1, a2, a3⟩ := ad_1 h0
    exact ⟨hR', by show s.term ≤ t; omega, Nat.le_refl _, fun _ _ => rfl, fun h => absurd (show (1 : Int) = 2 from h) (by decide), fun h => absurd (show (1 : Int) = 3 from h) (by decide), fun h => absurd (show (1 : Int) = 4 from h) (by decide), fun _ _ _ => rfl⟩
  · obtain ⟨a1, a2, a3⟩ := ad_2 h0
    have e1 : lastS (foldS s (eR e)) = lastS s + 1 := by
      show s.snap.1 + ((s.ents ++ [e]).length : Int) = s.snap.1 + (s.ents.length : Int) + 1
      rw [List.length_append, List.length_singleton]
      omega
    exact ⟨hR', Int.le_refl _, Nat.le_refl _, fun _ _ => rfl, fun _ => ⟨by rw [e1]; exact a1.symm, e1⟩, fun h => absurd (show (2 : Int) = 3 from h) (by decide), fun h => absurd (show (2 : Int) = 4 from h) (by decide), fun h => absurd rfl h⟩
  · obtain ⟨a1, a2⟩ := ad_3 h0
    refine ⟨hR', Int.le_refl _, Nat.le_refl _, fun _ _ => rfl, fun h => absurd (show (3 : Int) = 2 from h) (by decide), fun _ => ?_, fun h => absurd (show (3 : Int) = 4 from h) (by decide), fun _ h => absurd rfl h⟩
    show s.snap.1 + ((s.ents.take (i - s.snap.1 - 1).toNat).length : Int) = i - 1
    unfold lastS at a2
    rw [List.length_take]
    omega
  · obtain ⟨a1, a2⟩ := ad_4 h0
    refine ⟨hR', Int.le_refl _, Nat.le_refl _, fun _ _ => rfl, fun h => absurd (show (4 : Int) = 2 from h) (by decide), fun h => absurd (show (4 : Int) = 3 from h) (by decide), fun _ => ⟨rfl, ?_⟩, fun _ _ h => absurd rfl h⟩
    show x.1 + ((s.ents.drop (cutS s x)).length : Int) = s.snap.1 + (s.ents.length : Int) ∨ x.1 + ((s.ents.drop (cutS s x)).length : Int) = x.1
    rw [List.length_drop]
    rcases cutS_or s x with ⟨k, hk, hc, hx⟩ | hc
    · left
      have h2 := hg k hk
      rw [hx] at h2
      rw [hc]
      omega
    · right
      omega
  · obtain ⟨a1, a2⟩ := ad_5 h0
    refine ⟨hR', Int.le_refl _, ?_, fun i hi => ?_, fun h => absurd (show (5 : Int) = 2 from h) (by decide), fun h => absurd (show (5 : Int) = 3 from h) (by decide), fun h => absurd (show (5 : Int) = 4 from h) (by decide), fun _ _ _ => rfl⟩
    · show s.sgs.length ≤ (s.sgs ++ [x]).length
      rw [List.length_append]
      omega
    · show (s.sgs ++ [x]).getD i sg0 = _
      rw [getD_l hi]
end Go.Proofs.Ytcdenfkbhefbbaa
