/- What a reader that never throws reads: plain facts, no program in sight. -/
import Derived.Test.YtfgcfjojpakpjaaGreatWirePure
set_option linter.unusedVariables false
set_option linter.unusedSimpArgs false
namespace Go.Proofs.YtfgcfjojpakpjaaGreat
open Go.Sx
/-- The bytes that are left, and whether it has gone wrong. -/
abbrev RSt := List Int × Bool
def cF (s : RSt) : Int × RSt := ((rc s.1).1, if (rc s.1).2.2 = 0 then (s.1.drop (rc s.1).2.1.toNat, s.2) else ([], true))
def sF (s : RSt) : ByteArray × RSt := (ba (rb s.1).1, if (rb s.1).2.2 = 0 then (s.1.drop (rb s.1).2.1.toNat, s.2) else ([], true))
def dF (s : RSt) : Dg × RSt := (ofL (rd s.1).1, if (rd s.1).2.2 = 0 then (s.1.drop (rd s.1).2.1.toNat, s.2) else ([], true))
def prF {α β : Type} (a : RSt → α × RSt) (b : RSt → β × RSt) (s : RSt) : (α × β) × RSt := (((a s).1, (b (a s).2).1), (b (a s).2).2)
def manyF (s : RSt) : Int × RSt := if 4096 < (cF s).1 then (0, ((cF s).2.1, true)) else if (cF s).2.2 = true then (0, (cF s).2) else cF s
def loopF {α : Type} (a : RSt → α × RSt) : Nat → RSt → List α → List α × RSt
  | 0, s, acc => (acc, s)
  | k + 1, s, acc => if s.2 = true then (acc, s) else loopF a k (a s).2 (acc ++ [(a s).1])
def lsF {α : Type} (a : RSt → α × RSt) (s : RSt) : List α × RSt := loopF a (manyF s).1.toNat (manyF s).2 []
/-- It reads just what the codec says, or goes wrong; what has gone wrong stays so. -/
structure Ag {α : Type} (c : Cdc α) (f : RSt → α × RSt) : Prop where
  yes : ∀ l x r, c.rn l = some (x, r) → f (l, false) = (x, (r, false))
  no : ∀ l, c.rn l = none → (f (l, false)).2.2 = true
  bad : ∀ l, (f (l, true)).2.2 = true
  rest : ∀ s, ∃ k, (f s).2.1 = s.1.drop k
theorem Ag.byt {α : Type} {c : Cdc α} {f : RSt → α × RSt} (h : Ag c f) {s : RSt} (hb : Byt s.1) : Byt (f s).2.1 := by
  obtain ⟨k, hk⟩ := h.rest s
  rw [hk]
  exact fun x hx => hb x (List.mem_of_mem_drop hx)
theorem Ag.short {α : Type} {c : Cdc α} {f : RSt → α × RSt} (h : Ag c f) {s : RSt} {B : Nat} (hb : s.1.length ≤ B) : (f s).2.1.length ≤ B := by
  obtain ⟨k, hk⟩ := h.rest s
  rw [hk, List.length_drop]
  omega
theorem drop_all {l : List Int} : ∃ k, ([] : List Int) = l.drop k := ⟨l.length, (List.drop_length).symm⟩
theorem agC : Ag cC cF where
  yes l x r h := by
    have h : rnC l = some (x, r) := h
    unfold rnC at h
    split at h
    · rename_i h0
      simp only [Option.some.injEq, Prod.mk.injEq] at h
      unfold cF
      simp only
      rw [if_pos h0, h.1, h.2]
    · cases h
  no l h := by
    have h : rnC l = none := h
    unfold rnC at h
    split at h
    · cases h
    · rename_i h0
      unfold cF
      simp only
      rw [if_neg h0]
  bad l := by
    unfold cF
    simp only
    split <;> rfl
  rest s := by
    unfold cF
    simp only
    split
    · exact ⟨_, rfl⟩
    · exact drop_all
theorem agS : Ag sC sF where
  yes l x r h := by
    have h : rnS l = some (x, r) := h
    unfold rnS at h
    split at h
    · rename_i h0
      simp only [Option.some.injEq, Prod.mk.injEq] at h
      unfold sF
      simp only
      rw [if_pos h0, h.1, h.2]
    · cases h
  no l h := by
    have h : rnS l = none := h
    unfold rnS at h
    split at h
    · cases h
    · rename_i h0
      unfold sF
      simp only
      rw [if_neg h0]
  bad l := by
    unfold sF
    simp only
    split <;> rfl
  rest s := by
    unfold sF
    simp only
    split
    · exact ⟨_, rfl⟩
    · exact drop_all
theorem agD : Ag dC dF where
  yes l x r h := by
    have h : rnD l = some (x, r) := h
    unfold rnD at h
    split at h
    · rename_i h0
      simp only [Option.some.injEq, Prod.mk.injEq] at h
      unfold dF
      simp only
      rw [if_pos h0, h.1, h.2]
    · cases h
  no l h := by
    have h : rnD l = none := h
    unfold rnD at h
    split at h
    · cases h
    · rename_i h0
      unfold dF
      simp only
      rw [if_neg h0]
  bad l := by
    unfold dF
    simp only
    split <;> rfl
  rest s := by
    unfold dF
    simp only
    split
    · exact ⟨_, rfl⟩
    · exact drop_all
theorem Ag.stay {α : Type} {c : Cdc α} {f : RSt → α × RSt} (h : Ag c f) {s : RSt} (hs : s.2 = true) : (f s).2.2 = true := by
  obtain ⟨l, b⟩ := s
  simp only at hs
  subst hs
  exact h.bad l
theorem agP {α β : Type} {c : Cdc α} {d : Cdc β} {f : RSt → α × RSt} {g : RSt → β × RSt} (h : Ag c f) (h2 : Ag d g) : Ag (pr c d) (prF f g) where
  yes l x r e := by
    have e : (match c.rn l with | none => none | some (x, r) => match d.rn r with | none => none | some (y, r') => some ((x, y), r')) = some (x, r) := e
    split at e
    · cases e
    · rename_i y1 r1 e1
      split at e
      · cases e
      · rename_i y2 r2 e2
        simp only [Option.some.injEq, Prod.mk.injEq] at e
        obtain ⟨rfl, rfl⟩ := e
        unfold prF
        rw [h.yes l _ _ e1]
        simp only
        rw [h2.yes _ _ _ e2]
  no l e := by
    have e : (match c.rn l with | none => none | some (x, r) => match d.rn r with | none => none | some (y, r') => some ((x, y), r')) = none := e
    unfold prF
    simp only
    split at e
    · rename_i e1
      exact h2.stay (h.no l e1)
    · rename_i y1 r1 e1
      rw [h.yes l _ _ e1]
      simp only
      split at e
      · rename_i e2
        exact h2.no _ e2
      · cases e
  bad l := h2.stay (h.bad l)
  rest s := by
    obtain ⟨k, hk⟩ := h.rest s
    obtain ⟨k2, hk2⟩ := h2.rest (f s).2
    exact ⟨k + k2, by unfold prF; simp only; rw [hk2, hk, List.drop_drop]⟩
theorem many_rest (s : RSt) : ∃ k, (manyF s).2.1 = s.1.drop k := by
  obtain ⟨k, hk⟩ := agC.rest s
  unfold manyF
  split
  · exact ⟨k, hk⟩
  · split
    · exact ⟨k, hk⟩
    · exact ⟨k, hk⟩
theorem many_bad {s : RSt} (h : s.2 = true) : (manyF s).2.2 = true := by
  have := agC.stay h
  unfold manyF
  split
  · rfl
  · first | exact this | (rw [if_pos this]; exact this)
theorem loop_rest {α : Type} {c : Cdc α} {f : RSt → α × RSt} (h : Ag c f) : ∀ (k : Nat) (s : RSt) (acc : List α), ∃ m, (loopF f k s acc).2.1 = s.1.drop m
  | 0, s, acc => ⟨0, rfl⟩
  | k + 1, s, acc => by
    unfold loopF
    split
    · exact ⟨0, rfl⟩
    · obtain ⟨m, hm⟩ := h.rest s
      obtain ⟨m2, hm2⟩ := loop_rest h k (f s).2 (acc ++ [(f s).1])
      exact ⟨m + m2, by rw [hm2, hm, List.drop_drop]⟩
theorem loop_bad {α : Type} {c : Cdc α} {f : RSt → α × RSt} (h : Ag c f) : ∀ (k : Nat) (s : RSt) (acc : List α), s.2 = true → (loopF f k s acc).2.2 = true
  | 0, s, acc, hs => hs
  | k + 1, s, acc, hs => by
    unfold loopF
    rw [if_pos hs]
    exact hs
theorem loop_yes {α : Type} {c : Cdc α} {f : RSt → α × RSt} (h : Ag c f) : ∀ (k : Nat) (l : List Int) (acc x : List α) (r : List Int), rnN c k l acc = some (x, r) → loopF f k (l, false) acc = (x, (r, false))
  | 0, l, acc, x, r, e => by
    simp only [rnN, Option.some.injEq, Prod.mk.injEq] at e
    obtain ⟨rfl, rfl⟩ := e
    rfl
  | k + 1, l, acc, x, r, e => by
    unfold rnN at e
    split at e
    · cases e
    · rename_i y r1 e1
      unfold loopF
      rw [if_neg (by simp), h.yes l _ _ e1]
      exact loop_yes h k _ _ _ _ e
theorem loop_no {α : Type} {c : Cdc α} {f : RSt → α × RSt} (h : Ag c f) : ∀ (k : Nat) (l : List Int) (acc : List α), rnN c k l acc = none → (loopF f k (l, false) acc).2.2 = true
  | 0, l, acc, e => by cases e
  | k + 1, l, acc, e => by
    unfold rnN at e
    unfold loopF
    rw [if_neg (by simp)]
    split at e
    · rename_i e1
      exact loop_bad h k _ _ (h.no l e1)
    · rename_i y r1 e1
      rw [h.yes l _ _ e1]
      exact loop_no h k _ _ e
theorem agL {α : Type} {c : Cdc α} {f : RSt → α × RSt} (h : Ag c f) : Ag (ls c) (lsF f) where
  yes l x r e := by
    have e : rnL c l = some (x, r) := e
    unfold rnL at e
    unfold lsF manyF
    split at e
    · cases e
    · rename_i y r1 e1
      rw [agC.yes l _ _ e1]
      simp only
      split at e
      · rename_i hy
        rw [if_neg (by omega), if_neg (by simp)]
        exact loop_yes h _ _ _ _ _ e
      · cases e
  no l e := by
    have e : rnL c l = none := e
    unfold rnL at e
    unfold lsF
    split at e
    · rename_i e1
      refine loop_bad h _ _ _ ?_
      have h1 := agC.no l e1
      unfold manyF
      split
      · rfl
      · first | exact h1 | (rw [if_pos h1]; exact h1)
    · rename_i y r1 e1
      split at e
      · rename_i hy
        unfold manyF
        rw [agC.yes l _ _ e1]
        simp only
        rw [if_neg (by omega), if_neg (by simp)]
        exact loop_no h _ _ _ e
      · rename_i hy
        refine loop_bad h _ _ _ ?_
        unfold manyF
        rw [agC.yes l _ _ e1]
        simp only
        rw [if_pos (by omega)]
  bad l := loop_bad h _ _ _ (many_bad rfl)
  rest s := by
    obtain ⟨k, hk⟩ := many_rest s
    obtain ⟨k2, hk2⟩ := loop_rest h (manyF s).1.toNat (manyF s).2 []
    exact ⟨k + k2, by unfold lsF; rw [hk2, hk, List.drop_drop]⟩
abbrev cmdF := prF cF (prF cF (prF cF (prF sF (prF sF (prF cF dF)))))
abbrev clRF := prF (lsF cF) (lsF cF)
abbrev enF := prF cF (prF cF (prF cF (prF cmdF clRF)))
abbrev hdF := prF cF (prF dF dF)
abbrev sgF := prF hdF dF
abbrev snF := prF cF (prF cF (prF clRF sF))
abbrev recF := prF cF (prF cF (prF cF (prF enF (prF cF (prF snF sgF)))))
abbrev vrF := prF cF (prF cF sF)
abbrev usRF := prF sF (lsF vrF)
abbrev seF := prF cF (prF cF (prF cF cF))
abbrev drF := prF cF (prF (lsF usRF) (prF (lsF hdF) (lsF seF)))
theorem agCmd : Ag cmdC cmdF := agP agC (agP agC (agP agC (agP agS (agP agS (agP agC agD)))))
theorem agCl : Ag clC clRF := agP (agL agC) (agL agC)
theorem agEn : Ag enC enF := agP agC (agP agC (agP agC (agP agCmd agCl)))
theorem agHd : Ag hdC hdF := agP agC (agP agD agD)
theorem agSg : Ag sgC sgF := agP agHd agD
theorem agSn : Ag snC snF := agP agC (agP agC (agP agCl agS))
theorem agRec : Ag recC recF := agP agC (agP agC (agP agC (agP agEn (agP agC (agP agSn agSg)))))
theorem agVr : Ag vrC vrF := agP agC (agP agC agS)
theorem agUs : Ag usC usRF := agP agS (agL agVr)
theorem agSe : Ag seC seF := agP agC (agP agC (agP agC agC))
theorem agDr : Ag drC drF := agP agC (agP (agL agUs) (agP (agL agHd) (agL agSe)))
/-- Read as a whole: just what the codec says. -/
theorem Ag.whole {α : Type} {c : Cdc α} {f : RSt → α × RSt} (h : Ag c f) (l : List Int) : getW c l = if (f (l, false)).2.2 = false ∧ (f (l, false)).2.1 = [] then some (f (l, false)).1 else none := by
  unfold getW
  cases e : c.rn l with
  | none =>
    simp only
    rw [if_neg]
    intro h1
    have := h.no l e
    rw [h1.1] at this
    cases this
  | some p =>
    obtain ⟨x, r⟩ := p
    rw [h.yes l x r e]
    cases r with
    | nil => simp
    | cons y r => simp
end Go.Proofs.YtfgcfjojpakpjaaGreat
