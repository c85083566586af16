/- What a row of counts, texts, digests and lists is laid as, and what bytes are read as: plain facts, no program in sight. -/
import Derived.Test.YtcdenfkbhefbbaaOctetPure
set_option linter.unusedVariables false
set_option linter.unusedSimpArgs false
namespace Go.Proofs.Ytcdenfkbhefbbaa
open Go.Sx

/-! ### Digests as 32 numbers -/
abbrev Dg := Fin 32 → Int
def l32 (f : Dg) : List Int := [f 0, f 1, f 2, f 3, f 4, f 5, f 6, f 7, f 8, f 9, f 10, f 11, f 12, f 13, f 14, f 15, f 16, f 17, f 18, f 19, f 20, f 21, f 22, f 23, f 24, f 25, f 26, f 27, f 28, f 29, f 30, f 31]
def ofL (l : List Int) : Dg := fun i => l.getD i.1 0
theorem l32_ofFn (f : Dg) : l32 f = List.ofFn f := by
  simp [l32, List.ofFn, Fin.foldr, Fin.foldr.loop]
theorem l32_len (f : Dg) : (l32 f).length = 32 := rfl
theorem l32_get (f : Dg) (i : Fin 32) : (l32 f)[i.1]? = some (f i) := by
  rw [l32_ofFn, List.getElem?_ofFn]
  simp
theorem l32_inj {f g : Dg} (h : l32 f = l32 g) : f = g := by
  funext i
  have h1 := l32_get f i
  rw [h, l32_get g i] at h1
  injection h1 with h1
  exact h1.symm
theorem l32_ofL {l : List Int} (h : l.length = 32) : l32 (ofL l) = l := by
  apply List.ext_getElem?
  intro i
  by_cases hi : i < 32
  · have := l32_get (ofL l) ⟨i, hi⟩
    rw [this]
    unfold ofL
    rw [List.getD_eq_getElem?_getD, List.getElem?_eq_getElem (by simpa using (by omega : i < l.length))]
    rfl
  · rw [List.getElem?_eq_none (by rw [l32_len]; omega), List.getElem?_eq_none (by omega)]
theorem ofL_l32 (f : Dg) : ofL (l32 f) = f := l32_inj (l32_ofL rfl)
def dz : Dg := fun _ => 0
theorem l32_dz : l32 dz = zd := rfl

/-! ### What is laid -/
inductive Tok where
  | c (n : Int)
  | s (x : ByteArray)
  | d (f : Dg)
  | ln (n : Nat)
def encT : Tok → Except Int (List Int)
  | .c n => if 0 ≤ n ∧ n ≤ 2147483647 then .ok (grp n) else .error 1
  | .s x => if x.size ≤ 65536 then .ok (grp x.size ++ bs x) else .error 2
  | .d f => .ok (l32 f)
  | .ln n => if n ≤ 4096 then .ok (grp n) else .error 2
/-- One behind the other; the first error stands. -/
def then2 : Except Int (List Int) → Except Int (List Int) → Except Int (List Int)
  | .error e, _ => .error e
  | .ok x, .error e => .error e
  | .ok x, .ok y => .ok (x ++ y)
def encTs : List Tok → Except Int (List Int)
  | [] => .ok []
  | t :: r => then2 (encT t) (encTs r)
theorem then2_nil (a : Except Int (List Int)) : then2 a (.ok []) = a := by cases a <;> simp [then2]
theorem then2_assoc (a b c : Except Int (List Int)) : then2 (then2 a b) c = then2 a (then2 b c) := by
  cases a <;> cases b <;> cases c <;> simp [then2]
theorem encTs_app : ∀ a b : List Tok, encTs (a ++ b) = then2 (encTs a) (encTs b)
  | [], b => by cases h : encTs b <;> simp [encTs, then2, h]
  | t :: a, b => by rw [List.cons_append, encTs, encTs_app a b, encTs, then2_assoc]
theorem encTs_one (t : Tok) : encTs [t] = encT t := then2_nil _
theorem then2_ok {a b : Except Int (List Int)} {M : List Int} (h : then2 a b = .ok M) : ∃ x y, a = .ok x ∧ b = .ok y ∧ M = x ++ y := by
  cases a <;> cases b <;> simp [then2] at h
  exact ⟨_, _, rfl, rfl, h.symm⟩
theorem encT_len {t : Tok} {M : List Int} (h : encT t = .ok M) : M.length ≤ 65545 ∧ 1 ≤ M.length := by
  cases t with
  | c n =>
    simp only [encT] at h
    split at h
    · have h := Except.ok.inj h
      have := grp_len n
      rw [← h]
      omega
    · cases h
  | s x =>
    simp only [encT] at h
    split at h
    · have h := Except.ok.inj h
      have := grp_len x.size
      have := bs_length x
      rw [← h, List.length_append]
      omega
    · cases h
  | d f =>
    have h := Except.ok.inj h
    rw [← h, l32_len]
    omega
  | ln n =>
    simp only [encT] at h
    split at h
    · have h := Except.ok.inj h
      have := grp_len n
      rw [← h]
      omega
    · cases h
theorem encTs_len : ∀ {l : List Tok} {M : List Int}, encTs l = .ok M → M.length ≤ 65545 * l.length
  | [], M, h => by injection h with h; rw [← h]; simp
  | t :: l, M, h => by
    obtain ⟨x, y, h1, h2, rfl⟩ := then2_ok h
    have := (encT_len h1).1
    have := encTs_len h2
    rw [List.length_append, List.length_cons]
    omega

/-! ### What is laid, and read -/
structure Cdc (α : Type) where
  tk : α → List Tok
  rn : List Int → Option (α × List Int)
  put : ∀ x M rest, encTs (tk x) = .ok M → rn (M ++ rest) = some (x, rest)
  back : ∀ b x rest, Byt b → rn b = some (x, rest) → ∃ M, encTs (tk x) = .ok M ∧ b = M ++ rest
theorem Cdc.byt {α : Type} (a : Cdc α) {b : List Int} {x : α} {rest : List Int} (hb : Byt b) (h : a.rn b = some (x, rest)) : Byt rest := by
  obtain ⟨M, _, rfl⟩ := a.back b x rest hb h
  exact fun y hy => hb y (List.mem_append_right _ hy)
theorem Cdc.short {α : Type} (a : Cdc α) {b : List Int} {x : α} {rest : List Int} (hb : Byt b) (h : a.rn b = some (x, rest)) : rest.length ≤ b.length := by
  obtain ⟨M, _, rfl⟩ := a.back b x rest hb h
  rw [List.length_append]
  omega
def rnC (l : List Int) : Option (Int × List Int) := if (rc l).2.2 = 0 then some ((rc l).1, l.drop (rc l).2.1.toNat) else none
def rnS (l : List Int) : Option (ByteArray × List Int) := if (rb l).2.2 = 0 then some (ba (rb l).1, l.drop (rb l).2.1.toNat) else none
def rnD (l : List Int) : Option (Dg × List Int) := if (rd l).2.2 = 0 then some (ofL (rd l).1, l.drop (rd l).2.1.toNat) else none
theorem drop_pre {a b : List Int} {n : Int} (h : n = a.length) : (a ++ b).drop n.toNat = b := by
  rw [h, Int.toNat_natCast, List.drop_left]
def cC : Cdc Int where
  tk n := [.c n]
  rn := rnC
  put x M rest h := by
    rw [encTs_one] at h
    simp only [encT] at h
    split at h
    · rename_i hx
      have h := Except.ok.inj h
      subst h
      have := rc_grp rest hx.1 hx.2
      unfold rnC
      rw [this]
      refine (if_pos rfl).trans ?_
      simp only
      rw [drop_pre rfl]
    · cases h
  back b x rest hb h := by
    unfold rnC at h
    split at h
    · rename_i h0
      obtain ⟨_, h1, h2, k, hk0, hk1, hk2, hk3⟩ | ⟨h1, _⟩ := rc_ok hb
      · have h4 := rc_back hb h0 hk3
        simp only [Option.some.injEq, Prod.mk.injEq] at h
        obtain ⟨rfl, rfl⟩ := h
        refine ⟨grp (rc b).1, ?_, ?_⟩
        · rw [encTs_one]
          simp only [encT]
          rw [if_pos ⟨h1, h2⟩]
        · rw [hk3, Int.toNat_natCast, ← h4, List.take_append_drop]
      · exact absurd h0 h1
    · cases h
def sC : Cdc ByteArray where
  tk x := [.s x]
  rn := rnS
  put x M rest h := by
    rw [encTs_one] at h
    simp only [encT] at h
    split at h
    · rename_i hx
      have h := Except.ok.inj h
      subst h
      have hl := bs_length x
      have := rb_put (x := bs x) rest (by omega)
      unfold rnS
      rw [hl] at this
      rw [this]
      refine (if_pos rfl).trans ?_
      simp only
      rw [drop_pre (by rw [List.length_append, hl]; omega), ba_bs]
    · cases h
  back b x rest hb h := by
    unfold rnS at h
    split at h
    · rename_i h0
      obtain ⟨_, k, hk0, hk1, hk2, hk3, hk4⟩ | ⟨h1, _⟩ := rb_ok hb
      · simp only [Option.some.injEq, Prod.mk.injEq] at h
        obtain ⟨rfl, rfl⟩ := h
        have hs : (ba (rb b).1).size = (rb b).1.length := ba_size _
        refine ⟨grp (ba (rb b).1).size ++ bs (ba (rb b).1), ?_, ?_⟩
        · rw [encTs_one]
          simp only [encT]
          rw [if_pos (by rw [hs]; exact hk2)]
        · rw [hs, bs_ba hk3, ← hk4, hk1, Int.toNat_natCast, List.take_append_drop]
      · exact absurd h0 h1
    · cases h
def dC : Cdc Dg where
  tk f := [.d f]
  rn := rnD
  put f M rest h := by
    rw [encTs_one] at h
    have h := Except.ok.inj h
    subst h
    have := rd_put (d := l32 f) rest rfl
    unfold rnD
    rw [this]
    refine (if_pos rfl).trans ?_
    show some (ofL (l32 f), (l32 f ++ rest).drop 32) = _
    rw [List.drop_left' (l32_len f), ofL_l32]
  back b f rest hb h := by
    unfold rnD at h
    split at h
    · rename_i h0
      simp only [Option.some.injEq, Prod.mk.injEq] at h
      obtain ⟨rfl, rfl⟩ := h
      have hl : ¬ b.length < 32 := by
        intro h
        unfold rd at h0
        rw [if_pos h] at h0
        exact absurd h0 (by decide)
      have e : rd b = (b.take 32, 32, 0) := by unfold rd; rw [if_neg hl]
      refine ⟨l32 (ofL (rd b).1), by rw [encTs_one]; rfl, ?_⟩
      rw [e, l32_ofL (by rw [List.length_take]; omega)]
      exact (List.take_append_drop 32 b).symm
    · cases h
section
variable {α β : Type}
def pr (a : Cdc α) (b : Cdc β) : Cdc (α × β) where
  tk x := a.tk x.1 ++ b.tk x.2
  rn l := match a.rn l with
    | none => none
    | some (x, r) => match b.rn r with
      | none => none
      | some (y, r') => some ((x, y), r')
  put x M rest h := by
    rw [encTs_app] at h
    obtain ⟨u, v, h1, h2, rfl⟩ := then2_ok h
    rw [List.append_assoc, a.put _ _ _ h1]
    simp only
    rw [b.put _ _ _ h2]
  back l x rest hb h := by
    cases h1 : a.rn l with
    | none => rw [h1] at h; cases h
    | some p =>
      obtain ⟨u, r⟩ := p
      rw [h1] at h
      simp only at h
      cases h2 : b.rn r with
      | none => rw [h2] at h; cases h
      | some q =>
        obtain ⟨v, r'⟩ := q
        rw [h2] at h
        simp only [Option.some.injEq, Prod.mk.injEq] at h
        obtain ⟨rfl, rfl⟩ := h
        obtain ⟨M1, e1, rfl⟩ := a.back _ _ _ hb h1
        obtain ⟨M2, e2, rfl⟩ := b.back _ _ _ (fun y hy => hb y (List.mem_append_right _ hy)) h2
        refine ⟨M1 ++ M2, ?_, by rw [List.append_assoc]⟩
        rw [encTs_app, e1, e2]
        rfl
def rnN (a : Cdc α) : Nat → List Int → List α → Option (List α × List Int)
  | 0, d, acc => some (acc, d)
  | k + 1, d, acc => match a.rn d with
    | none => none
    | some (x, r) => rnN a k r (acc ++ [x])
theorem rnN_put (a : Cdc α) : ∀ (l acc : List α) (M rest : List Int), encTs (l.flatMap a.tk) = .ok M → rnN a l.length (M ++ rest) acc = some (acc ++ l, rest)
  | [], acc, M, rest, h => by
    have h := Except.ok.inj h
    subst h
    simp [rnN]
  | x :: l, acc, M, rest, h => by
    rw [List.flatMap_cons, encTs_app] at h
    obtain ⟨u, v, h1, h2, rfl⟩ := then2_ok h
    rw [List.length_cons, rnN, List.append_assoc, a.put _ _ _ h1]
    simp only
    rw [rnN_put a l (acc ++ [x]) v rest h2, List.append_assoc]
    rfl
theorem rnN_back (a : Cdc α) : ∀ (k : Nat) (d : List Int) (acc l : List α) (rest : List Int), Byt d → rnN a k d acc = some (l, rest) → ∃ l' M, l = acc ++ l' ∧ l'.length = k ∧ encTs (l'.flatMap a.tk) = .ok M ∧ d = M ++ rest
  | 0, d, acc, l, rest, hb, h => by
    simp only [rnN, Option.some.injEq, Prod.mk.injEq] at h
    obtain ⟨rfl, rfl⟩ := h
    exact ⟨[], [], by simp, rfl, rfl, rfl⟩
  | k + 1, d, acc, l, rest, hb, h => by
    unfold rnN at h
    cases h1 : a.rn d with
    | none => rw [h1] at h; cases h
    | some p =>
      obtain ⟨x, r⟩ := p
      rw [h1] at h
      simp only at h
      obtain ⟨M1, e1, rfl⟩ := a.back _ _ _ hb h1
      obtain ⟨l', M2, rfl, h3, h4, rfl⟩ := rnN_back a k r (acc ++ [x]) l rest (fun y hy => hb y (List.mem_append_right _ hy)) h
      refine ⟨x :: l', M1 ++ M2, by simp, by simp [h3], ?_, by rw [List.append_assoc]⟩
      rw [List.flatMap_cons, encTs_app, e1, h4]
      rfl
def rnL (a : Cdc α) (l : List Int) : Option (List α × List Int) :=
  match rnC l with
  | none => none
  | some (n, r) => if n ≤ 4096 then rnN a n.toNat r [] else none
def ls (a : Cdc α) : Cdc (List α) where
  tk l := .ln l.length :: l.flatMap a.tk
  rn := rnL a
  put l M rest h := by
    rw [encTs] at h
    obtain ⟨u, v, h1, h2, rfl⟩ := then2_ok h
    simp only [encT] at h1
    split at h1
    · rename_i hn
      have h1 := Except.ok.inj h1
      subst h1
      unfold rnL
      have := cC.put (l.length : Int) (grp l.length) (v ++ rest) (by
        show encTs [.c _] = _
        rw [encTs_one]
        simp only [encT]
        rw [if_pos ⟨by omega, by omega⟩])
      rw [List.append_assoc, show rnC = cC.rn from rfl, this]
      simp only
      rw [if_pos (by omega), Int.toNat_natCast, rnN_put a l [] v rest h2]
      rfl
    · cases h1
  back b l rest hb h := by
    unfold rnL at h
    cases h1 : rnC b with
    | none => rw [h1] at h; cases h
    | some p =>
      obtain ⟨n, r⟩ := p
      rw [h1] at h
      simp only at h
      split at h
      · rename_i hn
        obtain ⟨M1, e1, rfl⟩ := cC.back _ _ _ hb h1
        have e1' : encT (.c n) = .ok M1 := by
          have : encTs [.c n] = .ok M1 := e1
          rwa [encTs_one] at this
        simp only [encT] at e1'
        split at e1'
        · rename_i h0
          have e1' := Except.ok.inj e1'
          subst e1'
          obtain ⟨l', M2, hl', h3, h4, rfl⟩ := rnN_back a _ r [] l rest (fun y hy => hb y (List.mem_append_right _ hy)) h
          rw [List.nil_append] at hl'
          subst hl'
          refine ⟨grp n ++ M2, ?_, by rw [List.append_assoc]⟩
          rw [encTs]
          have : encT (.ln l.length) = .ok (grp n) := by
            simp only [encT]
            rw [if_pos (by omega), h3, show ((n.toNat : Nat) : Int) = n by omega]
          rw [this, h4]
          rfl
        · cases e1'
      · cases h
/-- Bytes that are just one thing. -/
def getW (a : Cdc α) (b : List Int) : Option α := match a.rn b with | some (x, []) => some x | _ => none
theorem getW_put (a : Cdc α) {x : α} {M : List Int} (h : encTs (a.tk x) = .ok M) : getW a M = some x := by
  have := a.put x M [] h
  rw [List.append_nil] at this
  unfold getW
  rw [this]
theorem getW_back (a : Cdc α) {x : α} {b : List Int} (hb : Byt b) (h : getW a b = some x) : encTs (a.tk x) = .ok b := by
  unfold getW at h
  cases h1 : a.rn b with
  | none => rw [h1] at h; cases h
  | some p =>
    obtain ⟨y, r⟩ := p
    rw [h1] at h
    cases r with
    | nil =>
      simp only [Option.some.injEq] at h
      subst h
      obtain ⟨M, e, rfl⟩ := a.back _ _ _ hb h1
      rwa [List.append_nil]
    | cons z r => cases h
theorem getW_more (a : Cdc α) {x : α} {M : List Int} (h : encTs (a.tk x) = .ok M) (z : Int) : getW a (M ++ [z]) = none := by
  unfold getW
  rw [a.put x M [z] h]
theorem getW_less (a : Cdc α) {x : α} {M : List Int} (hb : Byt M) (h : encTs (a.tk x) = .ok M) (hne : M ≠ []) : getW a (M.take (M.length - 1)) = none := by
  cases h1 : getW a (M.take (M.length - 1)) with
  | none => rfl
  | some y =>
    have h2 := getW_back a (hb.take _) h1
    have h3 := a.put y _ (M.drop (M.length - 1)) h2
    rw [List.take_append_drop] at h3
    have h4 := a.put x M [] h
    rw [List.append_nil, h3] at h4
    simp only [Option.some.injEq, Prod.mk.injEq] at h4
    have := congrArg List.length h4.2
    rw [List.length_drop] at this
    have : 0 < M.length := List.length_pos_iff.2 hne
    simp at *
    omega
end

/-! ### The messages -/
abbrev Cmd := Int × Int × Int × ByteArray × ByteArray × Int × Dg
abbrev Cl := List Int × List Int
abbrev En := Int × Int × Int × Cmd × Cl
abbrev Hd := Int × Dg × Dg
abbrev Sg := Hd × Dg
abbrev Sn := Int × Int × Cl × ByteArray
abbrev Rec := Int × Int × Int × En × Int × Sn × Sg
abbrev Vr := Int × Int × ByteArray
abbrev Us := ByteArray × List Vr
abbrev Se := Int × Int × Int × Int
abbrev Dr := Int × List Us × List Hd × List Se
def cmdC : Cdc Cmd := pr cC (pr cC (pr cC (pr sC (pr sC (pr cC dC)))))
def clC : Cdc Cl := pr (ls cC) (ls cC)
def enC : Cdc En := pr cC (pr cC (pr cC (pr cmdC clC)))
def hdC : Cdc Hd := pr cC (pr dC dC)
def sgC : Cdc Sg := pr hdC dC
def snC : Cdc Sn := pr cC (pr cC (pr clC sC))
def recC : Cdc Rec := pr cC (pr cC (pr cC (pr enC (pr cC (pr snC sgC)))))
def vrC : Cdc Vr := pr cC (pr cC sC)
def usC : Cdc Us := pr sC (ls vrC)
def seC : Cdc Se := pr cC (pr cC (pr cC cC))
def drC : Cdc Dr := pr cC (pr (ls usC) (pr (ls hdC) (ls seC)))
end Go.Proofs.Ytcdenfkbhefbbaa
