/- Part 2 of the texts that the law leans on. -/
import Derived.Test.YtfdmjjhgdbpfeaaDoorCBa1
/- What a count's bytes are, and what bytes are read as: in plain numbers. -/
set_option linter.unusedVariables false
set_option linter.unusedSimpArgs false
namespace Go.Proofs.YtfdmjjhgdbpfeaaDoor
open Go.Sx

/-! ### A count's bytes -/
def grpF : Nat → Int → List Int
  | 0, n => [n]
  | f + 1, n => if n < 128 then [n] else (128 + n % 128) :: grpF f (n / 128)
def grp (n : Int) : List Int := grpF 8 n

theorem grpF_up : ∀ (f : Nat) (n : Int), n < 128 ^ (f + 1) → grpF (f + 1) n = grpF f n
  | 0, n, h => by
    have h' : n < 128 := by simpa using h
    show (if n < 128 then [n] else _) = [n]
    rw [if_pos h']
  | f + 1, n, h => by
    show (if n < 128 then [n] else (128 + n % 128) :: grpF (f + 1) (n / 128)) = (if n < 128 then [n] else (128 + n % 128) :: grpF f (n / 128))
    by_cases h1 : n < 128
    · rw [if_pos h1, if_pos h1]
    · rw [if_neg h1, if_neg h1, grpF_up f (n / 128) (by
        rw [Int.pow_succ] at h
        omega)]
theorem grpF_byt : ∀ (f : Nat) (n : Int), 0 ≤ n → n < 128 ^ (f + 1) → Byt (grpF f n)
  | 0, n, h0, h => by
    have h' : n < 128 := by simpa using h
    intro x hx
    have : x = n := by simpa [grpF] using hx
    omega
  | f + 1, n, h0, h => by
    intro x hx
    by_cases h1 : n < 128
    · simp only [grpF, if_pos h1, List.mem_singleton] at hx
      omega
    · simp only [grpF, if_neg h1, List.mem_cons] at hx
      rcases hx with rfl | hx
      · omega
      · exact grpF_byt f (n / 128) (by omega) (by rw [Int.pow_succ] at h; omega) x hx
theorem grpF_len : ∀ (f : Nat) (n : Int), 1 ≤ (grpF f n).length ∧ (grpF f n).length ≤ f + 1
  | 0, n => by simp [grpF]
  | f + 1, n => by
    have := grpF_len f (n / 128)
    unfold grpF
    split
    · simp
    · simp only [List.length_cons]; omega
theorem grp_byt {n : Int} (h0 : 0 ≤ n) (h1 : n < 9223372036854775808) : Byt (grp n) := grpF_byt 8 n h0 (by omega)
theorem grp_len (n : Int) : 1 ≤ (grp n).length ∧ (grp n).length ≤ 9 := grpF_len 8 n
theorem grp_300 : grp 300 = [172, 2] := by decide
theorem grp_2 : grp 2 = [2] := by decide

/-! ### What bytes begin with -/
/-- The i-th byte is come to, n is what came before it. -/
def rcF : Nat → List Int → Int → Int → Int × Int × Int
  | 0, _, _, _ => (0, 0, 11)
  | f + 1, l, i, n => match l with
    | [] => (0, 0, 10)
    | g :: r =>
      if g ≥ 128 then rcF f r (i + 1) (n + g % 128 * 128 ^ i.toNat)
      else if (0 < i ∧ g = 0) ∨ 2147483647 < n + g % 128 * 128 ^ i.toNat then (0, 0, 11) else (n + g % 128 * 128 ^ i.toNat, i + 1, 0)
def rc (l : List Int) : Int × Int × Int := rcF 5 l 0 0

def rcAt (l : List Int) (i : Nat) (n : Int) : Int × Int × Int := rcF (5 - i) (l.drop i) i n
theorem rcAt_zero (l : List Int) : rcAt l 0 0 = rc l := rfl
theorem rcAt_step {l : List Int} {i : Nat} (n : Int) (h5 : i < 5) (hl : i < l.length) : rcAt l i n = if l.getD i 0 ≥ 128 then rcAt l (i + 1) (n + l.getD i 0 % 128 * 128 ^ i) else if (0 < (i : Int) ∧ l.getD i 0 = 0) ∨ 2147483647 < n + l.getD i 0 % 128 * 128 ^ i then (0, 0, 11) else (n + l.getD i 0 % 128 * 128 ^ i, (i : Int) + 1, 0) := by
  have hd : l.drop i = l.getD i 0 :: l.drop (i + 1) := by
    rw [List.getD_eq_getElem?_getD, List.getElem?_eq_getElem hl]
    exact List.drop_eq_getElem_cons hl
  unfold rcAt
  rw [hd, show 5 - i = (5 - (i + 1)) + 1 by omega]
  show (if l.getD i 0 ≥ 128 then rcF (5 - (i + 1)) (l.drop (i + 1)) ((i : Int) + 1) (n + l.getD i 0 % 128 * 128 ^ (i : Int).toNat) else if (0 < (i : Int) ∧ l.getD i 0 = 0) ∨ 2147483647 < n + l.getD i 0 % 128 * 128 ^ (i : Int).toNat then (0, 0, 11) else (n + l.getD i 0 % 128 * 128 ^ (i : Int).toNat, (i : Int) + 1, 0)) = _
  rw [Int.toNat_natCast]
  rfl
theorem rcAt_end {l : List Int} {i : Nat} (n : Int) (h5 : i < 5) (hl : l.length ≤ i) : rcAt l i n = (0, 0, 10) := by
  unfold rcAt
  rw [List.drop_eq_nil_of_le hl, show 5 - i = (4 - i) + 1 by omega]
  rfl
theorem rcAt_out (l : List Int) (n : Int) : rcAt l 5 n = (0, 0, 11) := rfl

theorem pow128 (i : Nat) : (128 : Int) ^ i = 2 ^ (7 * i) := by rw [Int.pow_mul]; rfl
theorem and127 {g : Int} (h : 0 ≤ g ∧ g < 256) : bits2 .and .u8 g 127 = g % 128 := by
  have key : ∀ x : Fin 256, bits2 .and .u8 (x.val : Int) 127 = (x.val : Int) % 128 := by decide +kernel
  have := key ⟨g.toNat, by omega⟩
  simpa [Int.toNat_of_nonneg h.1] using this
theorem or_add {x y : Int} {k : Nat} (hx : 0 ≤ x) (hy : 0 ≤ y) (hk : x < 2 ^ k) (h : x + y * 2 ^ k < 9223372036854775808) : bits2 .or .i64 x (y * 2 ^ k) = x + y * 2 ^ k := by
  have hp : (0 : Int) < 2 ^ k := Int.pow_pos (by omega)
  have hyk : 0 ≤ y * 2 ^ k := Int.mul_nonneg hy (by omega)
  have e1 : (BitVec.ofInt 64 x).toNat = x.toNat := by rw [BitVec.toNat_ofInt]; simp; omega
  have e2 : (BitVec.ofInt 64 (y * 2 ^ k)).toNat = y.toNat * 2 ^ k := by
    rw [BitVec.toNat_ofInt]
    have : (y * 2 ^ k).toNat = y.toNat * 2 ^ k := by
      rw [Int.toNat_mul hy (by omega)]
      congr 1
    rw [← this]
    congr 1
    exact Int.emod_eq_of_lt hyk (by simp; omega)
  unfold bits2
  show IntKind.i64.wrap ((BitVec.ofInt 64 x ||| BitVec.ofInt 64 (y * 2 ^ k)).toNat : Int) = _
  rw [BitVec.toNat_or, e1, e2]
  have hxk : x.toNat < 2 ^ k := by
    have : ((2 : Int) ^ k) = ((2 ^ k : Nat) : Int) := by simp
    omega
  have h3 := Nat.two_pow_add_eq_or_of_lt hxk y.toNat
  rw [Nat.or_comm, Nat.mul_comm, ← h3]
  have e4 : ((2 ^ k * y.toNat + x.toNat : Nat) : Int) = x + y * 2 ^ k := by
    rw [Int.natCast_add, Int.natCast_mul, Int.toNat_of_nonneg hx, Int.toNat_of_nonneg hy]
    simp
    rw [Int.mul_comm, Int.add_comm]
  rw [e4]
  exact Go.IntWalk.i64_in _ (by omega)

/-- What it is that is read. -/
theorem rcF_ok : ∀ (f : Nat) (l : List Int) (i : Nat) (n : Int), 0 ≤ n → Byt l → (rcF f l i n).2.2 = 0 ∧ 0 ≤ (rcF f l i n).1 ∧ (rcF f l i n).1 ≤ 2147483647 ∧ (∃ k : Nat, k < f ∧ k < l.length ∧ (rcF f l i n).2.1 = i + k + 1) ∨ ((rcF f l i n).2.2 ≠ 0 ∧ (rcF f l i n).1 = 0 ∧ (rcF f l i n).2.1 = 0)
  | 0, l, i, n, h0, hb => .inr ⟨by show (11 : Int) ≠ 0; decide, rfl, rfl⟩
  | f + 1, [], i, n, h0, hb => .inr ⟨by show (10 : Int) ≠ 0; decide, rfl, rfl⟩
  | f + 1, g :: r, i, n, h0, hb => by
    have hg := hb g (List.mem_cons_self ..)
    have hp : (0 : Int) ≤ g % 128 * 128 ^ i := Int.mul_nonneg (by omega) (Int.le_of_lt (Int.pow_pos (by omega)))
    simp only [rcF, Int.toNat_natCast]
    split
    · rcases rcF_ok f r (i + 1) (n + g % 128 * 128 ^ i) (by omega) (fun x hx => hb x (List.mem_cons_of_mem _ hx)) with ⟨h1, h2, h3, k, h4, h5, h6⟩ | h
      · exact .inl ⟨h1, h2, h3, k + 1, by omega, by simp only [List.length_cons]; omega, by rw [show ((i : Int) + 1) = ((i + 1 : Nat) : Int) by omega, h6]; omega⟩
      · exact .inr h
    · split
      · exact .inr ⟨by show (11 : Int) ≠ 0; decide, rfl, rfl⟩
      · exact .inl ⟨rfl, by show 0 ≤ n + _; omega, by show n + _ ≤ _; omega, 0, by omega, by simp, by show (i : Int) + 1 = _; omega⟩
/-- Read: a count and how many bytes it has; or nothing, and why. -/
theorem rc_ok {l : List Int} (hb : Byt l) : (rc l).2.2 = 0 ∧ 0 ≤ (rc l).1 ∧ (rc l).1 ≤ 2147483647 ∧ (∃ k : Nat, 1 ≤ k ∧ k ≤ 5 ∧ k ≤ l.length ∧ (rc l).2.1 = k) ∨ ((rc l).2.2 ≠ 0 ∧ (rc l).1 = 0 ∧ (rc l).2.1 = 0) := by
  rcases rcF_ok 5 l 0 0 (by omega) hb with ⟨h1, h2, h3, k, h4, h5, h6⟩ | h
  · exact .inl ⟨h1, h2, h3, k + 1, by omega, by omega, by omega, by show (rcF 5 l 0 0).2.1 = _; simp at h6; omega⟩
  · exact .inr h

/-- A text, and how many bytes it and its count have. -/
def rb (l : List Int) : List Int × Int × Int :=
  if (rc l).2.2 ≠ 0 then ([], 0, (rc l).2.2) else if 65536 < (rc l).1 then ([], 0, 11) else if (l.length : Int) - (rc l).2.1 < (rc l).1 then ([], 0, 10)
  else ((l.drop (rc l).2.1.toNat).take (rc l).1.toNat, (rc l).2.1 + (rc l).1, 0)
/-- A digest. -/
def rd (l : List Int) : List Int × Int × Int := if l.length < 32 then (zd, 0, 10) else (l.take 32, 32, 0)

theorem p128 {i : Nat} (h : i ≤ 4) : (1 : Int) ≤ 128 ^ i ∧ (128 : Int) ^ i ≤ 268435456 := by
  have : i = 0 ∨ i = 1 ∨ i = 2 ∨ i = 3 ∨ i = 4 := by omega
  rcases this with rfl | rfl | rfl | rfl | rfl <;> decide
theorem mul128 {g P : Int} (hP : 1 ≤ P) : 0 ≤ g % 128 * P ∧ g % 128 * P ≤ 127 * P :=
  ⟨Int.mul_nonneg (by omega) (by omega), Int.mul_le_mul_of_nonneg_right (by omega) (by omega)⟩
theorem byt_getD {l : List Int} (h : Byt l) (i : Nat) : 0 ≤ l.getD i 0 ∧ l.getD i 0 < 256 := by
  rw [List.getD_eq_getElem?_getD]
  cases hq : l[i]? with
  | none => exact ⟨by decide, by decide⟩
  | some x => exact h x (List.mem_of_getElem? hq)
theorem getD_take {l : List Int} {i k : Nat} (h : i < k) : (l.take k).getD i 0 = l.getD i 0 := by
  rw [List.getD_eq_getElem?_getD, List.getElem?_take, if_pos h, ← List.getD_eq_getElem?_getD]
theorem shl_i {g : Int} {i : Nat} (h : i ≤ 4) : IntKind.i64.wrap (g % 128 * 2 ^ (min (7 * (i : Int)).toNat IntKind.i64.bits)) = g % 128 * 128 ^ i := by
  have e : min (7 * (i : Int)).toNat IntKind.i64.bits = 7 * i := by
    show min _ 64 = _
    omega
  rw [e, ← pow128]
  have := p128 h
  have := mul128 (g := g) this.1
  exact Go.IntWalk.i64_in _ (by omega)
theorem or_i {x g : Int} {i : Nat} (h : i ≤ 4) (h0 : 0 ≤ x) (h1 : x < 128 ^ i) : bits2 .or .i64 x (g % 128 * 128 ^ i) = x + g % 128 * 128 ^ i := by
  have h2 := p128 h
  have h3 := mul128 (g := g) h2.1
  have h4 : x + g % 128 * 128 ^ i < 9223372036854775808 := by omega
  rw [pow128] at *
  exact or_add h0 (by omega) h1 h4

/-! ### What is put is read, and the other way round -/
theorem grp4 {n : Int} (h : n ≤ 2147483647) : grp n = grpF 4 n := by
  unfold grp
  rw [grpF_up 7 n (by omega), grpF_up 6 n (by omega), grpF_up 5 n (by omega), grpF_up 4 n (by omega)]
theorem rcF_grpF : ∀ (f : Nat) (m : Int) (rest : List Int) (i : Nat) (n : Int), 0 ≤ m → m < 128 ^ (f + 1) → 0 ≤ n → n + m * 128 ^ i ≤ 2147483647 → (0 < i → m ≠ 0) → rcF (f + 1) (grpF f m ++ rest) i n = (n + m * 128 ^ i, (i : Int) + (grpF f m).length, 0) := by
  have base : ∀ (f : Nat) (m : Int) (rest : List Int) (i : Nat) (n : Int), 0 ≤ m → m < 128 → n + m * 128 ^ i ≤ 2147483647 → (0 < i → m ≠ 0) → rcF (f + 1) (m :: rest) i n = (n + m * 128 ^ i, (i : Int) + 1, 0) := by
    intro f m rest i n h0 h1 h2 h3
    simp only [rcF, Int.toNat_natCast]
    rw [if_neg (by omega), Int.emod_eq_of_lt h0 h1, if_neg (fun h => ?_)]
    rcases h with ⟨h4, h5⟩ | h4
    · exact h3 (by omega) h5
    · omega
  intro f
  induction f with
  | zero =>
    intro m rest i n h0 h1 hn h2 h3
    exact base 0 m rest i n h0 (by simpa using h1) h2 h3
  | succ f ih =>
    intro m rest i n h0 h1 hn h2 h3
    by_cases hm : m < 128
    · simp only [grpF, if_pos hm]
      exact base (f + 1) m rest i n h0 hm h2 h3
    · simp only [grpF, if_neg hm, List.cons_append]
      rw [rcF]
      simp only [Int.toNat_natCast]
      rw [if_pos (by omega), show (128 + m % 128) % 128 = m % 128 by omega]
      have e1 : m * 128 ^ i = m % 128 * 128 ^ i + m / 128 * 128 ^ (i + 1) := by
        rw [Int.pow_succ, Int.mul_comm (128 ^ i) 128, ← Int.mul_assoc, ← Int.add_mul]
        congr 1
        omega
      have hp : (0 : Int) ≤ m % 128 * 128 ^ i := Int.mul_nonneg (by omega) (Int.le_of_lt (Int.pow_pos (by omega)))
      have := ih (m / 128) rest (i + 1) (n + m % 128 * 128 ^ i) (by omega) (by rw [Int.pow_succ] at h1; omega) (by omega) (by omega) (fun _ => by omega)
      rw [show ((i : Int) + 1) = ((i + 1 : Nat) : Int) by omega, this, e1]
      simp only [List.length_cons, Prod.mk.injEq, and_true]
      omega
theorem rc_grp {m : Int} (rest : List Int) (h0 : 0 ≤ m) (h1 : m ≤ 2147483647) : rc (grp m ++ rest) = (m, ((grp m).length : Int), 0) := by
  rw [grp4 h1]
  have := rcF_grpF 4 m rest 0 0 h0 (by omega) (by omega) (by simpa using h1) (by omega)
  simpa [rc] using this
theorem rcF_back : ∀ (f : Nat) (l : List Int) (i : Nat) (n : Int), 0 ≤ n → Byt l → (rcF (f + 1) l i n).2.2 = 0 → ∃ (m : Int) (k : Nat), 0 ≤ m ∧ (0 < i → 1 ≤ m) ∧ (rcF (f + 1) l i n).1 = n + m * 128 ^ i ∧ (rcF (f + 1) l i n).2.1 = i + k + 1 ∧ l.take (k + 1) = grpF f m
  | f, [], i, n, h0, hb, he => absurd he (by show (10 : Int) ≠ 0; decide)
  | f, g :: r, i, n, h0, hb, he => by
    have hg := hb g (List.mem_cons_self ..)
    have hp : (0 : Int) ≤ g % 128 * 128 ^ i := Int.mul_nonneg (by omega) (Int.le_of_lt (Int.pow_pos (by omega)))
    simp only [rcF, Int.toNat_natCast] at he ⊢
    by_cases h1 : g ≥ 128
    · rw [if_pos h1] at he ⊢
      cases f with
      | zero => exact absurd he (by show (11 : Int) ≠ 0; decide)
      | succ f =>
        rw [show ((i : Int) + 1) = ((i + 1 : Nat) : Int) by omega] at he ⊢
        obtain ⟨m, k, h2, h3, h4, h5, h6⟩ := rcF_back f r (i + 1) _ (by omega) (fun x hx => hb x (List.mem_cons_of_mem _ hx)) he
        have h7 := h3 (by omega)
        refine ⟨g % 128 + 128 * m, k + 1, by omega, fun _ => by omega, ?_, by rw [h5]; omega, ?_⟩
        · rw [h4, Int.pow_succ, Int.add_mul, Int.mul_comm (128 ^ i) 128, ← Int.mul_assoc, Int.mul_comm m 128]
          omega
        · rw [List.take_succ_cons, h6]
          simp only [grpF]
          rw [if_neg (by omega), show (g % 128 + 128 * m) / 128 = m by omega, show 128 + (g % 128 + 128 * m) % 128 = g by omega]
    · rw [if_neg h1] at he ⊢
      by_cases h2 : (0 < (i : Int) ∧ g = 0) ∨ 2147483647 < n + g % 128 * 128 ^ i
      · rw [if_pos h2] at he
        exact absurd he (by show (11 : Int) ≠ 0; decide)
      · rw [if_neg h2]
        refine ⟨g, 0, by omega, fun _ => by omega, by rw [Int.emod_eq_of_lt (by omega) (by omega)], by show (i : Int) + 1 = _; omega, ?_⟩
        cases f with
        | zero => rfl
        | succ f => simp only [grpF]; rw [if_pos (by omega)]; rfl
theorem rc_back {l : List Int} (hb : Byt l) (h : (rc l).2.2 = 0) {k : Nat} (hk : (rc l).2.1 = k) : l.take k = grp (rc l).1 := by
  obtain ⟨m, j, h0, _, h1, h2, h3⟩ := rcF_back 4 l 0 0 (by omega) hb h
  have e1 : (rc l).1 = m := by
    have : (rc l).1 = 0 + m * 128 ^ 0 := h1
    simpa using this
  have e2 : (rc l).2.1 = j + 1 := by
    have : (rc l).2.1 = (0 : Nat) + j + 1 := h2
    omega
  have e3 : k = j + 1 := by omega
  have hm : m ≤ 2147483647 := by
    rcases rc_ok hb with ⟨_, _, h5, _⟩ | ⟨h5, _⟩
    · omega
    · exact absurd h h5
  rw [e3, h3, e1, grp4 hm]
theorem rb_put {x : List Int} (rest : List Int) (h : x.length ≤ 65536) : rb (grp x.length ++ x ++ rest) = (x, ((grp x.length).length : Int) + x.length, 0) := by
  have hr := rc_grp (m := x.length) (x ++ rest) (by omega) (by omega)
  unfold rb
  rw [List.append_assoc, hr]
  simp only [List.length_append]
  rw [if_neg (by simp), if_neg (by omega), if_neg (by omega), Int.toNat_natCast, Int.toNat_natCast, List.drop_left, List.take_left]
theorem rd_put {d : List Int} (rest : List Int) (h : d.length = 32) : rd (d ++ rest) = (d, 32, 0) := by
  unfold rd
  have := List.take_left (l₁ := d) (l₂ := rest)
  rw [h] at this
  rw [if_neg (by rw [List.length_append]; omega), this]
theorem rb_ok {l : List Int} (hb : Byt l) : (rb l).2.2 = 0 ∧ (∃ k : Nat, k ≤ l.length ∧ (rb l).2.1 = k ∧ (rb l).1.length ≤ 65536 ∧ Byt (rb l).1 ∧ l.take k = grp (rb l).1.length ++ (rb l).1) ∨ ((rb l).2.2 ≠ 0 ∧ (rb l).1 = [] ∧ (rb l).2.1 = 0) := by
  rcases rc_ok hb with ⟨h1, h2, h3, k, h4, h5, h6, h7⟩ | ⟨h1, h2, h3⟩
  · by_cases h8 : 65536 < (rc l).1
    · have e : rb l = ([], 0, 11) := by unfold rb; rw [if_neg (fun h => h h1), if_pos h8]
      rw [e]; exact .inr ⟨by decide, rfl, rfl⟩
    · by_cases h9 : (l.length : Int) - (rc l).2.1 < (rc l).1
      · have e : rb l = ([], 0, 10) := by unfold rb; rw [if_neg (fun h => h h1), if_neg h8, if_pos h9]
        rw [e]; exact .inr ⟨by decide, rfl, rfl⟩
      · obtain ⟨j, hj⟩ : ∃ j : Nat, (rc l).1 = j := ⟨(rc l).1.toNat, by omega⟩
        have e : rb l = ((l.drop k).take j, (k : Int) + j, 0) := by
          unfold rb; rw [if_neg (fun h => h h1), if_neg h8, if_neg h9, h7, hj, Int.toNat_natCast, Int.toNat_natCast]
        rw [e]
        have hlen : ((l.drop k).take j).length = j := by rw [List.length_take, List.length_drop]; omega
        refine .inl ⟨rfl, k + j, by omega, by simp, by show ((l.drop k).take j).length ≤ _; omega, fun x hx => hb x (List.mem_of_mem_drop (List.mem_of_mem_take hx)), ?_⟩
        show l.take (k + j) = grp ((l.drop k).take j).length ++ (l.drop k).take j
        rw [hlen, ← hj, ← rc_back hb h1 h7, List.take_add]
  · have e : rb l = ([], 0, (rc l).2.2) := by unfold rb; rw [if_pos h1]
    rw [e]; exact .inr ⟨h1, rfl, rfl⟩

theorem rc_len {l : List Int} (hb : Byt l) : ∃ k : Nat, (rc l).2.1 = k ∧ k ≤ l.length := by
  rcases rc_ok hb with ⟨_, _, _, k, _, _, h1, h2⟩ | ⟨_, _, h⟩
  · exact ⟨k, h2, h1⟩
  · exact ⟨0, h, Nat.zero_le _⟩
theorem rb_len {l : List Int} (hb : Byt l) : ∃ k : Nat, (rb l).2.1 = k ∧ k ≤ l.length := by
  rcases rb_ok hb with ⟨_, k, h1, h2, _⟩ | ⟨_, _, h⟩
  · exact ⟨k, h2, h1⟩
  · exact ⟨0, h, Nat.zero_le _⟩
theorem rd_len (l : List Int) : ∃ k : Nat, (rd l).2.1 = k ∧ k ≤ l.length := by
  unfold rd
  split
  · exact ⟨0, rfl, Nat.zero_le _⟩
  · exact ⟨32, rfl, by omega⟩
theorem rd_size (l : List Int) : (rd l).1.length = 32 := by
  unfold rd
  split
  · rfl
  · show (l.take 32).length = 32
    rw [List.length_take]; omega
end Go.Proofs.YtfdmjjhgdbpfeaaDoor

/- What a row of counts, texts, digests and lists is laid as, and what bytes are read as: plain facts, no program in sight. -/
set_option linter.unusedVariables false
set_option linter.unusedSimpArgs false
namespace Go.Proofs.YtfdmjjhgdbpfeaaDoor
open Go.Sx

/-! ### Digests as 32 numbers -/
abbrev Dg := Fin 32 → Int
def l32 (f : Dg) : List Int := [f 0, f 1, f 2, f 3, f 4, f 5, f 6, f 7, f 8, f 9, f 10, f 11, f 12, f 13, f 14, f 15, f 16, f 17, f 18, f 19, f 20, f 21, f 22, f 23, f 24, f 25, f 26, f 27, f 28, f 29, f 30, f 31]
def ofL (l : List Int) : Dg := fun i => l.getD i.1 0
theorem l32_ofFn (f : Dg) : l32 f = List.ofFn f := by
  simp [l32, List.ofFn, Fin.foldr, Fin.foldr.loop]
theorem l32_len (f : Dg) : (l32 f).length = 32 := rfl
theorem l32_get (f : Dg) (i : Fin 32) : (l32 f)[i.1]? = some (f i) := by
  rw [l32_ofFn, List.getElem?_ofFn]
  simp
theorem l32_inj {f g : Dg} (h : l32 f = l32 g) : f = g := by
  funext i
  have h1 := l32_get f i
  rw [h, l32_get g i] at h1
  injection h1 with h1
  exact h1.symm
theorem l32_ofL {l : List Int} (h : l.length = 32) : l32 (ofL l) = l := by
  apply List.ext_getElem?
  intro i
  by_cases hi : i < 32
  · have := l32_get (ofL l) ⟨i, hi⟩
    rw [this]
    unfold ofL
    rw [List.getD_eq_getElem?_getD, List.getElem?_eq_getElem (by simpa using (by omega : i < l.length))]
    rfl
  · rw [List.getElem?_eq_none (by rw [l32_len]; omega), List.getElem?_eq_none (by omega)]
theorem ofL_l32 (f : Dg) : ofL (l32 f) = f := l32_inj (l32_ofL rfl)
def dz : Dg := fun _ => 0
theorem l32_dz : l32 dz = zd := rfl

/-! ### What is laid -/
inductive Tok where
  | c (n : Int)
  | s (x : ByteArray)
  | d (f : Dg)
  | ln (n : Nat)
def encT : Tok → Except Int (List Int)
  | .c n => if 0 ≤ n ∧ n ≤ 2147483647 then .ok (grp n) else .error 1
  | .s x => if x.size ≤ 65536 then .ok (grp x.size ++ bs x) else .error 2
  | .d f => .ok (l32 f)
  | .ln n => if n ≤ 4096 then .ok (grp n) else .error 2
/-- One behind the other; the first error stands. -/
def then2 : Except Int (List Int) → Except Int (List Int) → Except Int (List Int)
  | .error e, _ => .error e
  | .ok x, .error e => .error e
  | .ok x, .ok y => .ok (x ++ y)
def encTs : List Tok → Except Int (List Int)
  | [] => .ok []
  | t :: r => then2 (encT t) (encTs r)
theorem then2_nil (a : Except Int (List Int)) : then2 a (.ok []) = a := by cases a <;> simp [then2]
theorem then2_assoc (a b c : Except Int (List Int)) : then2 (then2 a b) c = then2 a (then2 b c) := by
  cases a <;> cases b <;> cases c <;> simp [then2]
theorem encTs_app : ∀ a b : List Tok, encTs (a ++ b) = then2 (encTs a) (encTs b)
  | [], b => by cases h : encTs b <;> simp [encTs, then2, h]
  | t :: a, b => by rw [List.cons_append, encTs, encTs_app a b, encTs, then2_assoc]
theorem encTs_one (t : Tok) : encTs [t] = encT t := then2_nil _
theorem then2_ok {a b : Except Int (List Int)} {M : List Int} (h : then2 a b = .ok M) : ∃ x y, a = .ok x ∧ b = .ok y ∧ M = x ++ y := by
  cases a <;> cases b <;> simp [then2] at h
  exact ⟨_, _, rfl, rfl, h.symm⟩
theorem encT_len {t : Tok} {M : List Int} (h : encT t = .ok M) : M.length ≤ 65545 ∧ 1 ≤ M.length := by
  cases t with
  | c n =>
    simp only [encT] at h
    split at h
    · have h := Except.ok.inj h
      have := grp_len n
      rw [← h]
      omega
    · cases h
  | s x =>
    simp only [encT] at h
    split at h
    · have h := Except.ok.inj h
      have := grp_len x.size
      have := bs_length x
      rw [← h, List.length_append]
      omega
    · cases h
  | d f =>
    have h := Except.ok.inj h
    rw [← h, l32_len]
    omega
  | ln n =>
    simp only [encT] at h
    split at h
    · have h := Except.ok.inj h
      have := grp_len n
      rw [← h]
      omega
    · cases h
theorem encTs_len : ∀ {l : List Tok} {M : List Int}, encTs l = .ok M → M.length ≤ 65545 * l.length
  | [], M, h => by injection h with h; rw [← h]; simp
  | t :: l, M, h => by
    obtain ⟨x, y, h1, h2, rfl⟩ := then2_ok h
    have := (encT_len h1).1
    have := encTs_len h2
    rw [List.length_append, List.length_cons]
    omega

/-! ### What is laid, and read -/
structure Cdc (α : Type) where
  tk : α → List Tok
  rn : List Int → Option (α × List Int)
  put : ∀ x M rest, encTs (tk x) = .ok M → rn (M ++ rest) = some (x, rest)
  back : ∀ b x rest, Byt b → rn b = some (x, rest) → ∃ M, encTs (tk x) = .ok M ∧ b = M ++ rest
theorem Cdc.byt {α : Type} (a : Cdc α) {b : List Int} {x : α} {rest : List Int} (hb : Byt b) (h : a.rn b = some (x, rest)) : Byt rest := by
  obtain ⟨M, _, rfl⟩ := a.back b x rest hb h
  exact fun y hy => hb y (List.mem_append_right _ hy)
theorem Cdc.short {α : Type} (a : Cdc α) {b : List Int} {x : α} {rest : List Int} (hb : Byt b) (h : a.rn b = some (x, rest)) : rest.length ≤ b.length := by
  obtain ⟨M, _, rfl⟩ := a.back b x rest hb h
  rw [List.length_append]
  omega
def rnC (l : List Int) : Option (Int × List Int) := if (rc l).2.2 = 0 then some ((rc l).1, l.drop (rc l).2.1.toNat) else none
def rnS (l : List Int) : Option (ByteArray × List Int) := if (rb l).2.2 = 0 then some (ba (rb l).1, l.drop (rb l).2.1.toNat) else none
def rnD (l : List Int) : Option (Dg × List Int) := if (rd l).2.2 = 0 then some (ofL (rd l).1, l.drop (rd l).2.1.toNat) else none
theorem drop_pre {a b : List Int} {n : Int} (h : n = a.length) : (a ++ b).drop n.toNat = b := by
  rw [h, Int.toNat_natCast, List.drop_left]
def cC : Cdc Int where
  tk n := [.c n]
  rn := rnC
  put x M rest h := by
    rw [encTs_one] at h
    simp only [encT] at h
    split at h
    · rename_i hx
      have h := Except.ok.inj h
      subst h
      have := rc_grp rest hx.1 hx.2
      unfold rnC
      rw [this]
      refine (if_pos rfl).trans ?_
      simp only
      rw [drop_pre rfl]
    · cases h
  back b x rest hb h := by
    unfold rnC at h
    split at h
    · rename_i h0
      obtain ⟨_, h1, h2, k, hk0, hk1, hk2, hk3⟩ | ⟨h1, _⟩ := rc_ok hb
      · have h4 := rc_back hb h0 hk3
        simp only [Option.some.injEq, Prod.mk.injEq] at h
        obtain ⟨rfl, rfl⟩ := h
        refine ⟨grp (rc b).1, ?_, ?_⟩
        · rw [encTs_one]
          simp only [encT]
          rw [if_pos ⟨h1, h2⟩]
        · rw [hk3, Int.toNat_natCast, ← h4, List.take_append_drop]
      · exact absurd h0 h1
    · cases h
def sC : Cdc ByteArray where
  tk x := [.s x]
  rn := rnS
  put x M rest h := by
    rw [encTs_one] at h
    simp only [encT] at h
    split at h
    · rename_i hx
      have h := Except.ok.inj h
      subst h
      have hl := bs_length x
      have := rb_put (x := bs x) rest (by omega)
      unfold rnS
      rw [hl] at this
      rw [this]
      refine (if_pos rfl).trans ?_
      simp only
      rw [drop_pre (by rw [List.length_append, hl]; omega), ba_bs]
    · cases h
  back b x rest hb h := by
    unfold rnS at h
    split at h
    · rename_i h0
      obtain ⟨_, k, hk0, hk1, hk2, hk3, hk4⟩ | ⟨h1, _⟩ := rb_ok hb
      · simp only [Option.some.injEq, Prod.mk.injEq] at h
        obtain ⟨rfl, rfl⟩ := h
        have hs : (ba (rb b).1).size = (rb b).1.length := ba_size _
        refine ⟨grp (ba (rb b).1).size ++ bs (ba (rb b).1), ?_, ?_⟩
        · rw [encTs_one]
          simp only [encT]
          rw [if_pos (by rw [hs]; exact hk2)]
        · rw [hs, bs_ba hk3, ← hk4, hk1, Int.toNat_natCast, List.take_append_drop]
      · exact absurd h0 h1
    · cases h
def dC : Cdc Dg where
  tk f := [.d f]
  rn := rnD
  put f M rest h := by
    rw [encTs_one] at h
    have h := Except.ok.inj h
    subst h
    have := rd_put (d := l32 f) rest rfl
    unfold rnD
    rw [this]
    refine (if_pos rfl).trans ?_
    show some (ofL (l32 f), (l32 f ++ rest).drop 32) = _
    rw [List.drop_left' (l32_len f), ofL_l32]
  back b f rest hb h := by
    unfold rnD at h
    split at h
    · rename_i h0
      simp only [Option.some.injEq, Prod.mk.injEq] at h
      obtain ⟨rfl, rfl⟩ := h
      have hl : ¬ b.length < 32 := by
        intro h
        unfold rd at h0
        rw [if_pos h] at h0
        exact absurd h0 (by decide)
      have e : rd b = (b.take 32, 32, 0) := by unfold rd; rw [if_neg hl]
      refine ⟨l32 (ofL (rd b).1), by rw [encTs_one]; rfl, ?_⟩
      rw [e, l32_ofL (by rw [List.length_take]; omega)]
      exact (List.take_append_drop 32 b).symm
    · cases h
section
variable {α β : Type}
def pr (a : Cdc α) (b : Cdc β) : Cdc (α × β) where
  tk x := a.tk x.1 ++ b.tk x.2
  rn l := match a.rn l with
    | none => none
    | some (x, r) => match b.rn r with
      | none => none
      | some (y, r') => some ((x, y), r')
  put x M rest h := by
    rw [encTs_app] at h
    obtain ⟨u, v, h1, h2, rfl⟩ := then2_ok h
    rw [List.append_assoc, a.put _ _ _ h1]
    simp only
    rw [b.put _ _ _ h2]
  back l x rest hb h := by
    cases h1 : a.rn l with
    | none => rw [h1] at h; cases h
    | some p =>
      obtain ⟨u, r⟩ := p
      rw [h1] at h
      simp only at h
      cases h2 : b.rn r with
      | none => rw [h2] at h; cases h
      | some q =>
        obtain ⟨v, r'⟩ := q
        rw [h2] at h
        simp only [Option.some.injEq, Prod.mk.injEq] at h
        obtain ⟨rfl, rfl⟩ := h
        obtain ⟨M1, e1, rfl⟩ := a.back _ _ _ hb h1
        obtain ⟨M2, e2, rfl⟩ := b.back _ _ _ (fun y hy => hb y (List.mem_append_right _ hy)) h2
        refine ⟨M1 ++ M2, ?_, by rw [List.append_assoc]⟩
        rw [encTs_app, e1, e2]
        rfl
def rnN (a : Cdc α) : Nat → List Int → List α → Option (List α × List Int)
  | 0, d, acc => some (acc, d)
  | k + 1, d, acc => match a.rn d with
    | none => none
    | some (x, r) => rnN a k r (acc ++ [x])
theorem rnN_put (a : Cdc α) : ∀ (l acc : List α) (M rest : List Int), encTs (l.flatMap a.tk) = .ok M → rnN a l.length (M ++ rest) acc = some (acc ++ l, rest)
  | [], acc, M, rest, h => by
    have h := Except.ok.inj h
    subst h
    simp [rnN]
  | x :: l, acc, M, rest, h => by
    rw [List.flatMap_cons, encTs_app] at h
    obtain ⟨u, v, h1, h2, rfl⟩ := then2_ok h
    rw [List.length_cons, rnN, List.append_assoc, a.put _ _ _ h1]
    simp only
    rw [rnN_put a l (acc ++ [x]) v rest h2, List.append_assoc]
    rfl
theorem rnN_back (a : Cdc α) : ∀ (k : Nat) (d : List Int) (acc l : List α) (rest : List Int), Byt d → rnN a k d acc = some (l, rest) → ∃ l' M, l = acc ++ l' ∧ l'.length = k ∧ encTs (l'.flatMap a.tk) = .ok M ∧ d = M ++ rest
  | 0, d, acc, l, rest, hb, h => by
    simp only [rnN, Option.some.injEq, Prod.mk.injEq] at h
    obtain ⟨rfl, rfl⟩ := h
    exact ⟨[], [], by simp, rfl, rfl, rfl⟩
  | k + 1, d, acc, l, rest, hb, h => by
    unfold rnN at h
    cases h1 : a.rn d with
    | none => rw [h1] at h; cases h
    | some p =>
      obtain ⟨x, r⟩ := p
      rw [h1] at h
      simp only at h
      obtain ⟨M1, e1, rfl⟩ := a.back _ _ _ hb h1
      obtain ⟨l', M2, rfl, h3, h4, rfl⟩ := rnN_back a k r (acc ++ [x]) l rest (fun y hy => hb y (List.mem_append_right _ hy)) h
      refine ⟨x :: l', M1 ++ M2, by simp, by simp [h3], ?_, by rw [List.append_assoc]⟩
      rw [List.flatMap_cons, encTs_app, e1, h4]
      rfl
def rnL (a : Cdc α) (l : List Int) : Option (List α × List Int) :=
  match rnC l with
  | none => none
  | some (n, r) => if n ≤ 4096 then rnN a n.toNat r [] else none
def ls (a : Cdc α) : Cdc (List α) where
  tk l := .ln l.length :: l.flatMap a.tk
  rn := rnL a
  put l M rest h := by
    rw [encTs] at h
    obtain ⟨u, v, h1, h2, rfl⟩ := then2_ok h
    simp only [encT] at h1
    split at h1
    · rename_i hn
      have h1 := Except.ok.inj h1
      subst h1
      unfold rnL
      have := cC.put (l.length : Int) (grp l.length) (v ++ rest) (by
        show encTs [.c _] = _
        rw [encTs_one]
        simp only [encT]
        rw [if_pos ⟨by omega, by omega⟩])
      rw [List.append_assoc, show rnC = cC.rn from rfl, this]
      simp only
      rw [if_pos (by omega), Int.toNat_natCast, rnN_put a l [] v rest h2]
      rfl
    · cases h1
  back b l rest hb h := by
    unfold rnL at h
    cases h1 : rnC b with
    | none => rw [h1] at h; cases h
    | some p =>
      obtain ⟨n, r⟩ := p
      rw [h1] at h
      simp only at h
      split at h
      · rename_i hn
        obtain ⟨M1, e1, rfl⟩ := cC.back _ _ _ hb h1
        have e1' : encT (.c n) = .ok M1 := by
          have : encTs [.c n] = .ok M1 := e1
          rwa [encTs_one] at this
        simp only [encT] at e1'
        split at e1'
        · rename_i h0
          have e1' := Except.ok.inj e1'
          subst e1'
          obtain ⟨l', M2, hl', h3, h4, rfl⟩ := rnN_back a _ r [] l rest (fun y hy => hb y (List.mem_append_right _ hy)) h
          rw [List.nil_append] at hl'
          subst hl'
          refine ⟨grp n ++ M2, ?_, by rw [List.append_assoc]⟩
          rw [encTs]
          have : encT (.ln l.length) = .ok (grp n) := by
            simp only [encT]
            rw [if_pos (by omega), h3, show ((n.toNat : Nat) : Int) = n by omega]
          rw [this, h4]
          rfl
        · cases e1'
      · cases h
/-- Bytes that are just one thing. -/
def getW (a : Cdc α) (b : List Int) : Option α := match a.rn b with | some (x, []) => some x | _ => none
theorem getW_put (a : Cdc α) {x : α} {M : List Int} (h : encTs (a.tk x) = .ok M) : getW a M = some x := by
  have := a.put x M [] h
  rw [List.append_nil] at this
  unfold getW
  rw [this]
theorem getW_back (a : Cdc α) {x : α} {b : List Int} (hb : Byt b) (h : getW a b = some x) : encTs (a.tk x) = .ok b := by
  unfold getW at h
  cases h1 : a.rn b with
  | none => rw [h1] at h; cases h
  | some p =>
    obtain ⟨y, r⟩ := p
    rw [h1] at h
    cases r with
    | nil =>
      simp only [Option.some.injEq] at h
      subst h
      obtain ⟨M, e, rfl⟩ := a.back _ _ _ hb h1
      rwa [List.append_nil]
    | cons z r => cases h
theorem getW_more (a : Cdc α) {x : α} {M : List Int} (h : encTs (a.tk x) = .ok M) (z : Int) : getW a (M ++ [z]) = none := by
  unfold getW
  rw [a.put x M [z] h]
theorem getW_less (a : Cdc α) {x : α} {M : List Int} (hb : Byt M) (h : encTs (a.tk x) = .ok M) (hne : M ≠ []) : getW a (M.take (M.length - 1)) = none := by
  cases h1 : getW a (M.take (M.length - 1)) with
  | none => rfl
  | some y =>
    have h2 := getW_back a (hb.take _) h1
    have h3 := a.put y _ (M.drop (M.length - 1)) h2
    rw [List.take_append_drop] at h3
    have h4 := a.put x M [] h
    rw [List.append_nil, h3] at h4
    simp only [Option.some.injEq, Prod.mk.injEq] at h4
    have := congrArg List.length h4.2
    rw [List.length_drop] at this
    have : 0 < M.length := List.length_pos_iff.2 hne
    simp at *
    omega
end

/-! ### The messages -/
abbrev Cmd := Int × Int × Int × ByteArray × ByteArray × Int × Dg
abbrev Cl := List Int × List Int
abbrev En := Int × Int × Int × Cmd × Cl
abbrev Hd := Int × Dg × Dg
abbrev Sg := Hd × Dg
abbrev Sn := Int × Int × Cl × ByteArray
abbrev Rec := Int × Int × Int × En × Int × Sn × Sg
abbrev Vr := Int × Int × ByteArray
abbrev Us := ByteArray × List Vr
abbrev Se := Int × Int × Int × Int
abbrev Dr := Int × List Us × List Hd × List Se
def cmdC : Cdc Cmd := pr cC (pr cC (pr cC (pr sC (pr sC (pr cC dC)))))
def clC : Cdc Cl := pr (ls cC) (ls cC)
def enC : Cdc En := pr cC (pr cC (pr cC (pr cmdC clC)))
def hdC : Cdc Hd := pr cC (pr dC dC)
def sgC : Cdc Sg := pr hdC dC
def snC : Cdc Sn := pr cC (pr cC (pr clC sC))
def recC : Cdc Rec := pr cC (pr cC (pr cC (pr enC (pr cC (pr snC sgC)))))
def vrC : Cdc Vr := pr cC (pr cC sC)
def usC : Cdc Us := pr sC (ls vrC)
def seC : Cdc Se := pr cC (pr cC (pr cC cC))
def drC : Cdc Dr := pr cC (pr (ls usC) (pr (ls hdC) (ls seC)))
end Go.Proofs.YtfdmjjhgdbpfeaaDoor

/- More rules: lists that a function hands back; two operations that turn the world and are open at once; slices and nil; structs' rows. -/
set_option linter.unusedVariables false
set_option linter.unusedSimpArgs false
namespace Go.Sx
theorem nbT {b : Bool} (h : (!b) = true) : b = false := by cases b <;> first | rfl | cases h
theorem nbF {b : Bool} (h : (!b) = false) : b = true := by cases b <;> first | rfl | cases h
section
variable {cx : Cx} {o : Oper} {ops : Array Oper} {K : St → Prop} {rest : List Oper} {st : St}
/-- A function hands back a row of its own (or nil). -/
def RetO (T : TypeId) (size : Nat) (w : World) (ks : List Value) (n : Nat) (val : Value → Value) : Ending → World → Prop := fun e w' =>
  ∃ q, e = .returned (val (ownV q n)) ∧ OwnC size q n ks ∧ Fr [] w w' ∧ ∀ b o, (b, o) ∈ ownM T q ks → w.heap.size ≤ b ∧ w'.heap[b]? = some o
theorem okW_own {m : Mem} {fs : List Fact} {w w' : World} {T : TypeId} {q : OwnR} {ks : List Value} (h : OkW cx m fs w) (hfr : Fr [] w w') (hn : ∀ b o, (b, o) ∈ ownM T q ks → w.heap.size ≤ b ∧ w'.heap[b]? = some o) : OkW cx (m ++ ownM T q ks) fs w' := by
  cases q with
  | none => simpa [ownM] using h.fr0 hfr
  | some q =>
    obtain ⟨g, c, r⟩ := q
    have := hn g (row T (ks ++ r)) (by simp [ownM])
    exact h.add hfr this.2 this.1
theorem S_callO {x : Operand} {args : Array Operand} {at_ : Array TypeId} {f : FuncId} {cap : Array Value} {vs : List Value} {d n size : Nat} {T : TypeId} {ks : List Value} {val : Value → Value} (ho : o.op = .call { callee := .value x, args := args, argTypes := at_ })
    (hd : o.dst = some d) (hlt : Nat.blt d cx.nt = true) (hx : ev st.env x = some (.func (.func f) #[] cap)) (hv : evs st.env args.toList = some vs) (hf : Txt cx.P f)
    (hc : ∀ w, OkW cx st.mem st.facts w → Calls cx.P f (vs.toArray ++ cap) w (RetO T size w ks n val))
    (h : ∀ q, OwnC size q n ks → K { st with env := (d, val (ownV q n)) :: st.env, mem := st.mem ++ ownM T q ks }) : S cx o K st :=
  S_call ho hx hv hf fun w hw => (hc w hw).mono fun e w' ⟨q, he, hq, hfr, hn⟩ => ⟨_, _, _, he, okW_own hw hfr hn, by rw [hd]; exact ⟨hlt, h q hq⟩⟩
theorem L_callO {x : Operand} {args : Array Operand} {at_ : Array TypeId} {f : FuncId} {cap : Array Value} {vs : List Value} {d n size : Nat} {T : TypeId} {ks : List Value} {val : Value → Value} (hg : o.guard = none) (ho : o.op = .call { callee := .value x, args := args, argTypes := at_ })
    (hd : o.dst = some d) (hlt : Nat.blt d cx.nt = true) (hx : ev st.env x = some (.func (.func f) #[] cap)) (hv : evs st.env args.toList = some vs) (hf : Txt cx.P f)
    (hc : ∀ w, OkW cx st.mem st.facts w → Calls cx.P f (vs.toArray ++ cap) w (RetO T size w ks n val))
    (h : ∀ q, OwnC size q n ks → L cx ops K rest { st with env := (d, val (ownV q n)) :: st.env, mem := st.mem ++ ownM T q ks }) : L cx ops K (o :: rest) st :=
  L_cons hg (S_callO ho hd hlt hx hv hf hc h)
theorem RetO.of {m m1 m2 : Mem} {fs : List Fact} {w : World} (hw : OkW cx m fs w) (hm : cx.mods = []) {T : TypeId} {q : OwnR} {ks : List Value} {n size : Nat} {val : Value → Value} {v : Value} (hq : OwnC size q n ks) (hv : v = val (ownV q n)) (hi : m = m1 ++ (ownM T q ks ++ m2)) :
    RetO T size cx.w0 ks n val (.returned v) w := by
  refine ⟨q, by rw [hv], hq, by rw [← hm]; exact hw.fr, fun b p hb => ?_⟩
  have hb' : (b, p) ∈ m := by rw [hi]; exact List.mem_append_right _ (List.mem_append_left _ hb)
  refine ⟨?_, hw.mem _ _ hb'⟩
  have := hw.may b (List.mem_map.2 ⟨_, hb', rfl⟩)
  rw [hm] at this
  simpa using this
theorem RetO.nil {m : Mem} {fs : List Fact} {w : World} (hw : OkW cx m fs w) (hm : cx.mods = []) {T : TypeId} {n size : Nat} {val : Value → Value} {v : Value} (hn : n = 0) (hv : v = val (.slice none 0 0)) : RetO T size cx.w0 [] n val (.returned v) w := by
  subst hn
  exact RetO.of (q := none) (m1 := m) (m2 := []) hw hm ⟨rfl, rfl⟩ hv (by simp [ownM])
theorem OwnC.forms {size : Nat} {q : OwnR} {n : Nat} {ks : List Value} (h : OwnC size q n ks) (hn : 0 < n) : ∃ g c r, q = some (g, c, r) ∧ ks.length = n * size ∧ n ≤ c ∧ r.length = (c - n) * size := by
  cases q with
  | none => exact absurd h.1 (by omega)
  | some q => exact ⟨q.1, q.2.1, q.2.2, rfl, h.1, h.2.1, h.2.2⟩

theorem SlC.in {size : Nat} {m : Mem} {fs : List Fact} {b n : Nat} {ks r : List Value} {T : TypeId} {fz : Nat × Nat} {w : World} (h : OkW cx m fs w) (hi : (b, Obj.cells (ks ++ r).toArray T fz) ∈ m) (hl : ks.length = n * size) (c : Nat) : SlC size w (.slice (some ⟨b, 0, none⟩) n c) n ks := by
  obtain ⟨i, hi⟩ := List.mem_iff_getElem?.1 hi
  exact SlC.of_own h hi hl c
theorem SlC.none0 {size : Nat} {w : World} {n c : Nat} {cs : List Value} (h : SlC size w (.slice none n c) n cs) : n = 0 ∧ cs = [] := by
  rcases h with ⟨h1, h2, _⟩ | ⟨b, off, c', e, _⟩
  · exact ⟨h1, h2⟩
  · simp at e

theorem SlC.ofM {size : Nat} {m : Mem} {fs : List Fact} {w : World} {e : TypeId} {q : OwnR} {n : Nat} {ks : List Value} (h : OkW cx m fs w) (hm : ∀ p ∈ ownM e q ks, p ∈ m) (hq : OwnC size q n ks) : SlC size w (ownV q n) n ks := by
  cases q with
  | none => exact .inl ⟨hq.1, hq.2, none, 0, by rw [hq.1]; rfl⟩
  | some q =>
    obtain ⟨b, c, r⟩ := q
    exact SlC.in (T := e) (r := r) (fz := (0, 0)) h (hm _ (by simp [ownM])) hq.1 c
theorem OwnC.le {size : Nat} {q : OwnR} {n : Nat} {ks : List Value} (h : OwnC size q n ks) : n ≤ oC q := by
  cases q with
  | none => rw [h.1]; exact Nat.le_refl _
  | some q => exact h.2.1

/-! ### Slices and nil -/
theorem run_eqNilS {P : Program} {t e : TypeId} (w : World) (d : Nat) (ht : P.underlying t = some (.slice e)) (a : Option Addr) (n c : Nat) : (Op.equalIn (d + 1) t (.slice a n c) (.slice none 0 0)).run P w = .ok a.isNone w := by
  cases a <;> simp [Op.equalIn, run_underlying ht]
theorem V_eqN {t yt e : TypeId} {x y : Operand} {a : Option Addr} {n c : Nat} {r : Bool} (ho : o.op = .binOp .eql t x y yt) (hx : ev st.env x = some (.slice a n c)) (hy : ev st.env y = some (.slice none 0 0)) (ht : cx.P.underlying t = some (.slice e)) (hr : a.isNone = r) : V cx o st (.bool r) :=
  ⟨nd ho (fun c h => by cases h), fun a' w h => by
    subst hr
    unfold execOp; rw [ho]
    have hg : (eqGuard .eql t x y (.slice a n c) (.slice none 0 0)).run cx.P w = .ok () w := rfl
    have he : (Op.equal t (.slice a n c) (.slice none 0 0)).run cx.P w = .ok a.isNone w := run_eqNilS w 9999 ht a n c
    simp only [h.a.ev hx, h.a.ev hy, Sem.run_bind, hg, Result.andThen_ok, binOp, he, Sem.run_pure]⟩
theorem V_neN {t yt e : TypeId} {x y : Operand} {a : Option Addr} {n c : Nat} {r : Bool} (ho : o.op = .binOp .neq t x y yt) (hx : ev st.env x = some (.slice a n c)) (hy : ev st.env y = some (.slice none 0 0)) (ht : cx.P.underlying t = some (.slice e)) (hr : (!a.isNone) = r) : V cx o st (.bool r) :=
  ⟨nd ho (fun c h => by cases h), fun a' w h => by
    subst hr
    unfold execOp; rw [ho]
    have hg : (eqGuard .neq t x y (.slice a n c) (.slice none 0 0)).run cx.P w = .ok () w := rfl
    have he : (Op.equal t (.slice a n c) (.slice none 0 0)).run cx.P w = .ok a.isNone w := run_eqNilS w 9999 ht a n c
    simp only [h.a.ev hx, h.a.ev hy, Sem.run_bind, hg, Result.andThen_ok, binOp, he, Sem.run_pure]⟩

/-! ### A literal row -/
theorem S_buildSlice {t e : TypeId} {parts : Array (Nat × Operand)} {d len : Nat} {vs : List (Nat × Value)} {l : List Value} (ho : o.op = .buildSlice t len parts) (hd : o.dst = some d) (hlt : Nat.blt d cx.nt = true)
    (hp : parts.toList.map (fun p => (p.1, ev st.env p.2)) = vs.map (fun p => (p.1, some p.2))) (hr : ∀ w, (Instr.buildSlice t len vs.toArray).run cx.P w = .ok (.slice (some ⟨w.heap.size, 0, none⟩) len len) (w.alloc (row e l)))
    (h : ∀ g, K { st with env := (d, .slice (some ⟨g, 0, none⟩) len len) :: st.env, mem := st.mem ++ [(g, row e l)] }) : S cx o K st := by
  intro Q next a w hok hk
  have e1 : parts.map (fun p => (p.1, a.eval p.2)) = vs.toArray := by
    apply Array.ext'
    simp only [Array.toList_map]
    have hl : parts.toList.length = vs.length := by simpa using congrArg List.length hp
    apply List.ext_getElem
    · simpa using hl
    · intro i h1 h2
      have h3 : i < parts.toList.length := by simpa using h1
      have := congrArg (fun l => l[i]?) hp
      simp only [List.getElem?_map, List.getElem?_eq_getElem h3, List.getElem?_eq_getElem (show i < vs.length by simpa using h2), Option.map_some, Option.some.injEq, Prod.mk.injEq] at this
      simp only [List.getElem_map]
      rw [Prod.ext_iff]
      exact ⟨this.1, hok.a.ev this.2⟩
  refine wpIn_value (nd ho (fun c h => by cases h)) (w' := w.alloc (row e l)) (v := .slice (some ⟨w.heap.size, 0, none⟩) len len) ?_ ?_
  · unfold execOp; rw [ho]
    simp only [e1, Sem.run_bind, hr w, Result.andThen_ok, Sem.run_pure]
  · rw [hd]
    exact hk _ _ _ ⟨hok.a.put hlt _, hok.w.alloc _⟩ (h _)
end
end Go.Sx

/- More rules: calls through bound functions; a call that turns a block of one's own and lays a new one; a call that turns a slice in a block of one's own; an operation that is quiet, walked where it alone may come. -/
set_option linter.unusedVariables false
set_option linter.unusedSimpArgs false
namespace Go.Sx
section
variable {cx : Cx} {o : Oper} {ops : Array Oper} {K : St → Prop} {rest : List Oper} {st : St} {m0 : Mem} {f0 : List Fact} {r : Ord}
theorem run_callF {a : Act} {env : Env} {ds : List Deferred} (ha : OkA cx env ds a) {x : Operand} {args : Array Operand} {at_ : Array TypeId} {f : FuncId} {first cap : Array Value} {vs : List Value} (ho : o.op = .call { callee := .value x, args := args, argTypes := at_ })
    (hx : ev env x = some (.func (.func f) first cap)) (hv : evs env args.toList = some vs) (hf : Txt cx.P f) (w : World) : (execOp a.eval o).run cx.P w = .ok (.enter f (first ++ vs.toArray ++ cap)) w := by
  unfold execOp; rw [ho]
  have e1 : args.map a.eval = vs.toArray := Array.ext' (by rw [Array.toList_map, ha.evs hv])
  simp only [resolve, ha.ev hx, e1, Deferred.ofValue, Sem.run_bind, Sem.run_pure, Result.andThen_ok, invoke, hf _ w]
/-- A call through a value that has its first arguments, by whatever is known of it. -/
theorem S_callF {x : Operand} {args : Array Operand} {at_ : Array TypeId} {f : FuncId} {first cap : Array Value} {vs : List Value} (ho : o.op = .call { callee := .value x, args := args, argTypes := at_ })
    (hx : ev st.env x = some (.func (.func f) first cap)) (hv : evs st.env args.toList = some vs) (hf : Txt cx.P f)
    (hc : ∀ w, OkW cx st.mem st.facts w → Calls cx.P f (first ++ vs.toArray ++ cap) w fun e w' => ∃ v m fs, e = .returned v ∧ OkW cx m fs w' ∧
      (match o.dst with
       | some d => Nat.blt d cx.nt = true ∧ K { st with env := (d, v) :: st.env, mem := m, facts := fs }
       | none => K { st with mem := m, facts := fs })) : S cx o K st := by
  intro Q next a w hok hk
  refine ⟨fun _ _ => trivial, ?_⟩
  rw [Oper.semAt_eq _ _ _ (nd ho (fun c h => by cases h)), run_callF hok.a ho hx hv hf w]
  refine ⟨fun h => (by cases h), ?_⟩
  refine callsIn_fen ((hc w hok.w).mono ?_)
  rintro e w' ⟨v, m, fs, rfl, hw', hL⟩
  cases hd : o.dst with
  | none =>
    rw [hd] at hL
    exact hk { st with mem := m, facts := fs } _ _ ⟨hok.a, hw'⟩ hL
  | some d =>
    rw [hd] at hL
    exact hk { st with env := (d, v) :: st.env, mem := m, facts := fs } _ _ ⟨hok.a.put hL.1 v, hw'⟩ hL.2
theorem OkW.setAdd {m : Mem} {fs : List Fact} {w w' : World} (h : OkW cx m fs w) {i b g : Nat} {p p' q' : Obj} (hi : m[i]? = some (b, p)) (hfr : Fr [b] w w') (hp : w'.heap[b]? = some p') (hg : w.heap.size ≤ g) (hq : w'.heap[g]? = some q') : OkW cx (m.set i (b, p') ++ [(g, q')]) fs w' := by
  have hb : b ∈ m.map (·.1) := List.mem_map.2 ⟨_, List.mem_of_getElem? hi, rfl⟩
  have h1 := h.set hi hfr hp
  have hk : (m.set i (b, p')).map (·.1) = m.map (·.1) := nodup_set hi
  refine h.step hfr (by simpa using hb) (fun c q hq2 => ?_) ?_ (fun f hf => .inl hf)
  · rcases List.mem_append.1 hq2 with h2 | h2
    · refine ⟨h1.mem c q h2, .inr ?_⟩
      rw [← hk]
      exact List.mem_map.2 ⟨_, h2, rfl⟩
    · simp only [List.mem_singleton, Prod.mk.injEq] at h2
      obtain ⟨rfl, rfl⟩ := h2
      exact ⟨hq, .inl hg⟩
  · rw [List.map_append, hk, List.nodup_append]
    refine ⟨h.dis, by simp, fun a ha c hc => ?_⟩
    simp only [List.map_cons, List.map_nil, List.mem_singleton] at hc
    subst hc
    have := h.lt ha
    exact Nat.ne_of_lt (Nat.lt_of_lt_of_le this hg)
/-- A function puts into block b a slice that stands in a new block. -/
def PutP (T U : TypeId) (w : World) (b : Nat) (L : List Int) (n : Nat) : Ending → World → Prop := fun e w' =>
  ∃ g r c, e = .returned (.tuple #[]) ∧ Fr [b] w w' ∧ w'.heap[b]? = some (row T [.slice (some ⟨g, 0, none⟩) n c]) ∧ w.heap.size ≤ g ∧ w'.heap[g]? = some (row U (dg L ++ r)) ∧ L.length = n ∧ n ≤ c ∧ r.length = c - n
theorem L_callX {x : Operand} {args : Array Operand} {at_ : Array TypeId} {f : FuncId} {first cap : Array Value} {vs : List Value} {d n b : Nat} {T U : TypeId} {L0 : List Int} {p : Obj} (i : Nat) (hg : o.guard = none) (ho : o.op = .call { callee := .value x, args := args, argTypes := at_ })
    (hd : o.dst = some d) (hlt : Nat.blt d cx.nt = true) (hx : ev st.env x = some (.func (.func f) first cap)) (hv : evs st.env args.toList = some vs) (hf : Txt cx.P f) (hi : st.mem[i]? = some (b, p))
    (hc : ∀ w, OkW cx st.mem st.facts w → Calls cx.P f (first ++ vs.toArray ++ cap) w (PutP T U w b L0 n))
    (h : ∀ g r c, L0.length = n → n ≤ c → r.length = c - n → L cx ops K rest { st with env := (d, .tuple #[]) :: st.env, mem := st.mem.set i (b, row T [.slice (some ⟨g, 0, none⟩) n c]) ++ [(g, row U (dg L0 ++ r))] }) : L cx ops K (o :: rest) st :=
  L_cons hg (S_callF ho hx hv hf fun w hw => (hc w hw).mono fun e w' ⟨g, r, c, he, hfr, hb, hgs, hgg, h1, h2, h3⟩ => ⟨_, _, st.facts, he, hw.setAdd hi hfr hb hgs hgg, by rw [hd]; exact ⟨hlt, h g r c h1 h2 h3⟩⟩)
/-- A function reads of the slice in block b. -/
def RdP (T : TypeId) (b : Nat) (w : World) (a : Option Addr) (n c : Nat) (l : List Int) (k : Int) (val : Value) : Ending → World → Prop := fun e w' =>
  ∃ a' n' c', e = .returned val ∧ Fr [b] w w' ∧ w'.heap[b]? = some (row T [.slice a' n' c']) ∧ n' ≤ c' ∧ ∀ W, SlB W (.slice a n c) l → SlB W (.slice a' n' c') (l.drop k.toNat)
theorem L_callR {x : Operand} {args : Array Operand} {at_ : Array TypeId} {f : FuncId} {first cap : Array Value} {vs : List Value} {d b : Nat} {T : TypeId} {a : Option Addr} {n c : Nat} {l : List Int} {k : Int} {val : Value} {p : Obj} (i : Nat) (hg : o.guard = none) (ho : o.op = .call { callee := .value x, args := args, argTypes := at_ })
    (hd : o.dst = some d) (hlt : Nat.blt d cx.nt = true) (hx : ev st.env x = some (.func (.func f) first cap)) (hv : evs st.env args.toList = some vs) (hf : Txt cx.P f) (hi : st.mem[i]? = some (b, p))
    (hc : ∀ w, OkW cx st.mem st.facts w → Calls cx.P f (first ++ vs.toArray ++ cap) w (RdP T b w a n c l k val))
    (h : ∀ a' n' c', n' ≤ c' → (∀ W, SlB W (.slice a n c) l → SlB W (.slice a' n' c') (l.drop k.toNat)) → L cx ops K rest { st with env := (d, val) :: st.env, mem := st.mem.set i (b, row T [.slice a' n' c']) }) : L cx ops K (o :: rest) st :=
  L_cons hg (S_callF ho hx hv hf fun w hw => (hc w hw).mono fun e w' ⟨a', n', c', he, hfr, hb, h1, h2⟩ => ⟨_, _, st.facts, he, hw.set hi hfr hb, by rw [hd]; exact ⟨hlt, h a' n' c' h1 h2⟩⟩)
/-- A quiet operation, walked as one that is not: it alone may come. -/
theorem LO_q {k d : Nat} {v : Value} (hro : cx.ro = none) (hk : ops[k]? = some o) (hg : o.guard = none) (hd : o.dst = some d) (hlt : Nat.blt d cx.nt = true) (hv : V cx o st v) (hp : Pk m0 st.mem) (hff : ∀ f ∈ f0, f ∈ st.facts) (h : LO cx m0 f0 ops K r (st.put d v)) : LO cx m0 f0 ops K (.one k r) st :=
  LO_s hro hk hg (S_v hd hlt hv ⟨hp, hff, h⟩)
end
end Go.Sx

/- Two structs, field by field: is it the same? -/
set_option linter.unusedVariables false
set_option linter.unusedSimpArgs false
namespace Go.Sx
variable {P : Program}
theorem eqF_and {d : Nat} {xs ys : Array Value} {t : TypeId} {off : Nat} {r : List (Bool × TypeId × Nat)} {a b : Value} {w : World} {p q : Prop} [Decidable p] [Decidable q] (hx : (part t xs off).run P w = .ok a w) (hy : (part t ys off).run P w = .ok b w) (hq : (Op.equalIn d t a b).run P w = .ok (decide p) w)
    (hr : (eqF d xs ys r).run P w = .ok (decide q) w) : (eqF d xs ys ((true, t, off) :: r)).run P w = .ok (decide (p ∧ q)) w := by
  rw [eqF_one hx hy hq, hr]
  by_cases hp : p <;> simp [hp]
theorem eqF_nil {d : Nat} {xs ys : Array Value} {w : World} : (eqF d xs ys []).run P w = .ok (decide True) w := rfl
theorem run_equalIn_strD {t : TypeId} (w : World) (d : Nat) (a b : ByteArray) (h : P.underlying t = some .string) : (Op.equalIn (d + 1) t (.string a) (.string b)).run P w = .ok (decide (a = b)) w := by
  rw [run_equalIn_string w d t a b h, Go.Sx.str_eq]
theorem run_equalIn_intD {t : TypeId} {k k' : IntKind} (w : World) (d : Nat) (a b : Int) (h : P.underlying t = some (.int k')) : (Op.equalIn (d + 1) t (.int k a) (.int k b)).run P w = .ok (decide (a = b)) w := by
  rw [run_equalIn_int w d t k k' a b h]
  by_cases h : a = b <;> simp [h]
theorem run_partSt' {t : TypeId} {fs : Array Field} {sz : Nat} {cs : Array Value} {off : Nat} {w : World} (hu : P.underlying t = some (.struct fs)) (hz : (P.info? t).map (·.size) = some sz) : (part t cs off).run P w = .ok (.agg (cs.extract off (off + sz))) w := by
  simp [part, isAgg, run_underlying hu, Go.Sx.run_sizeOf hz]
end Go.Sx

/- Plain facts on paths of 256 bits. -/
set_option linter.unusedVariables false
namespace Go.Sx
/-- What a bit weighs in its byte. -/
def wt (i : Int) : Int := 2 ^ (7 - i % 8).toNat
/-- The i-th bit. -/
def bitOf (d : List Int) (i : Int) : Int := nth d (i / 8) / wt i % 2
def bitV (d : List Int) (i : Int) : Int := if 0 ≤ i ∧ i < 256 then bitOf d i else 0
def bitE (i : Int) : Int := if 0 ≤ i ∧ i < 256 then 0 else 20
theorem mask_eq (i : Int) (h0 : 0 ≤ i) : IntKind.u8.wrap (1 * 2 ^ (min (7 - i % 8).toNat IntKind.u8.bits)) = wt i := by
  have h : i % 8 = 0 ∨ i % 8 = 1 ∨ i % 8 = 2 ∨ i % 8 = 3 ∨ i % 8 = 4 ∨ i % 8 = 5 ∨ i % 8 = 6 ∨ i % 8 = 7 := by omega
  unfold wt
  rcases h with h | h | h | h | h | h | h | h <;> rw [h] <;> decide
theorem bitV_out (d : List Int) (i : Int) (h : ¬ (0 ≤ i ∧ i < 256)) : bitV d i = 0 := if_neg h
theorem bitE_out (i : Int) (h : ¬ (0 ≤ i ∧ i < 256)) : bitE i = 20 := if_neg h
theorem bitE_in (i : Int) (h0 : 0 ≤ i) (h1 : i < 256) : bitE i = 0 := if_pos ⟨h0, h1⟩
theorem wt_cases (i : Int) : ∃ k : Fin 8, wt i = 2 ^ k.val ∧ (7 - i % 8).toNat = k.val := ⟨⟨(7 - i % 8).toNat, by omega⟩, rfl, rfl⟩
theorem and_bit : ∀ x : Fin 256, ∀ k : Fin 8, bits2 .and .u8 (x.val : Int) (2 ^ k.val) = ((x.val : Int) / 2 ^ k.val % 2) * 2 ^ k.val := by decide +kernel
theorem and_wt {x : Int} (h : 0 ≤ x ∧ x < 256) (i : Int) : bits2 .and .u8 x (wt i) = (x / wt i % 2) * wt i := by
  obtain ⟨k, hk, _⟩ := wt_cases i
  have := and_bit ⟨x.toNat, by omega⟩ k
  rw [hk]
  simpa [Int.toNat_of_nonneg h.1] using this
theorem wt_pos (i : Int) : 0 < wt i := by unfold wt; exact Int.pow_pos (by decide)
theorem bitOf_two (d : List Int) (i : Int) : bitOf d i = 0 ∨ bitOf d i = 1 := by unfold bitOf; omega
theorem bitV_one (d : List Int) (i : Int) (hb : Byt d) (h0 : 0 ≤ i) (h1 : i < 256) (h : bits2 .and .u8 (nth d (i / 8)) (wt i) ≠ 0) : bitV d i = 1 := by
  rw [and_wt (hb.nth _)] at h
  have := bitOf_two d i
  unfold bitV
  rw [if_pos ⟨h0, h1⟩]
  rcases this with h2 | h2
  · unfold bitOf at h2; rw [h2] at h; simp at h
  · exact h2
theorem bitV_no (d : List Int) (i : Int) (hb : Byt d) (h0 : 0 ≤ i) (h1 : i < 256) (h : ¬ bits2 .and .u8 (nth d (i / 8)) (wt i) ≠ 0) : bitV d i = 0 := by
  rw [and_wt (hb.nth _)] at h
  have hp := wt_pos i
  unfold bitV bitOf
  rw [if_pos ⟨h0, h1⟩]
  rcases Int.mul_eq_zero.1 (Classical.not_not.1 h) with h2 | h2 <;> omega
/-! ### Bits of a byte -/
theorem bits2_nn {op : BinOp} {x y : Int} (hx : 0 ≤ x ∧ x < 256) (hy : 0 ≤ y ∧ y < 256) : (BitVec.ofInt 8 x).toNat = x.toNat ∧ (BitVec.ofInt 8 y).toNat = y.toNat := by
  constructor <;> (rw [BitVec.toNat_ofInt]; omega)
theorem xor_nat {x y : Int} (hx : 0 ≤ x ∧ x < 256) (hy : 0 ≤ y ∧ y < 256) : bits2 .xor .u8 x y = ((x.toNat ^^^ y.toNat : Nat) : Int) := by
  obtain ⟨e1, e2⟩ := bits2_nn (op := .xor) hx hy
  have hlt : x.toNat ^^^ y.toNat < 2 ^ 8 := Nat.xor_lt_two_pow (by omega) (by omega)
  show IntKind.wrap .u8 ((BitVec.ofInt 8 x ^^^ BitVec.ofInt 8 y).toNat : Int) = _
  rw [BitVec.toNat_xor, e1, e2, IntKind.wrap_u8]
  omega
theorem bitN (n k : Nat) : ((n : Int) / 2 ^ k % 2) = (n.testBit k).toNat := by
  rw [Nat.testBit_eq_decide_div_mod_eq]
  have h : ((n : Int) / 2 ^ k % 2) = ((n / 2 ^ k % 2 : Nat) : Int) := by simp
  rw [h]
  rcases Nat.mod_two_eq_zero_or_one (n / 2 ^ k) with h | h <;> simp [h]
theorem bitZ {x : Int} (hx : 0 ≤ x) (k : Nat) : (x / 2 ^ k % 2) = (x.toNat.testBit k).toNat := by
  have := bitN x.toNat k
  rwa [Int.toNat_of_nonneg hx] at this
theorem xor_bit {x y : Int} (hx : 0 ≤ x ∧ x < 256) (hy : 0 ≤ y ∧ y < 256) (k : Nat) : bits2 .xor .u8 x y / 2 ^ k % 2 = 0 ↔ x / 2 ^ k % 2 = y / 2 ^ k % 2 := by
  rw [xor_nat hx hy, bitN, bitZ hx.1, bitZ hy.1, Nat.testBit_xor]
  cases x.toNat.testBit k <;> cases y.toNat.testBit k <;> decide
theorem xor_range {x y : Int} (hx : 0 ≤ x ∧ x < 256) (hy : 0 ≤ y ∧ y < 256) : 0 ≤ bits2 .xor .u8 x y ∧ bits2 .xor .u8 x y < 256 := by
  rw [xor_nat hx hy]
  have hlt : x.toNat ^^^ y.toNat < 2 ^ 8 := Nat.xor_lt_two_pow (by omega) (by omega)
  omega
theorem xor_zero {x y : Int} (hx : 0 ≤ x ∧ x < 256) (hy : 0 ≤ y ∧ y < 256) : bits2 .xor .u8 x y = 0 ↔ x = y := by
  rw [xor_nat hx hy]
  constructor
  · intro h
    have : x.toNat = y.toNat := by
      have h2 : x.toNat ^^^ y.toNat = 0 := by omega
      apply Nat.eq_of_testBit_eq
      intro i
      have := congrArg (fun n => n.testBit i) h2
      simp only [Nat.testBit_xor, Nat.zero_testBit] at this
      revert this
      cases x.toNat.testBit i <;> cases y.toNat.testBit i <;> simp
    omega
  · rintro rfl; simp
/-- Two bytes with the same bits are the same. -/
theorem byte_ext {x y : Int} (hx : 0 ≤ x ∧ x < 256) (hy : 0 ≤ y ∧ y < 256) (h : ∀ k : Nat, k < 8 → x / 2 ^ k % 2 = y / 2 ^ k % 2) : x = y := by
  have h0 := h 0 (by omega)
  have h1 := h 1 (by omega)
  have h2 := h 2 (by omega)
  have h3 := h 3 (by omega)
  have h4 := h 4 (by omega)
  have h5 := h 5 (by omega)
  have h6 := h 6 (by omega)
  have h7 := h 7 (by omega)
  simp at h0 h1 h2 h3 h4 h5 h6 h7
  omega

/-! ### A bit that is set -/
def setBit (d : List Int) (i b : Int) : List Int := d.set (i / 8).toNat (nth d (i / 8) + (b - bitOf d i) * wt i)
theorem set_range : ∀ x : Fin 256, ∀ k : Fin 8, ∀ b : Fin 2, 0 ≤ (x.val : Int) + ((b.val : Int) - (x.val : Int) / 2 ^ k.val % 2) * 2 ^ k.val ∧ (x.val : Int) + ((b.val : Int) - (x.val : Int) / 2 ^ k.val % 2) * 2 ^ k.val < 256 := by decide +kernel
theorem set_bits : ∀ x : Fin 256, ∀ k : Fin 8, ∀ b : Fin 2, ∀ j : Fin 8, ((x.val : Int) + ((b.val : Int) - (x.val : Int) / 2 ^ k.val % 2) * 2 ^ k.val) / 2 ^ j.val % 2 = if j = k then (b.val : Int) else (x.val : Int) / 2 ^ j.val % 2 := by decide +kernel
theorem andNot_bit : ∀ x : Fin 256, ∀ k : Fin 8, bits2 .andNot .u8 (x.val : Int) (2 ^ k.val) = (x.val : Int) + (0 - (x.val : Int) / 2 ^ k.val % 2) * 2 ^ k.val := by decide +kernel
theorem or_bit : ∀ x : Fin 256, ∀ k : Fin 8, bits2 .or .u8 (x.val : Int) (2 ^ k.val) = (x.val : Int) + (1 - (x.val : Int) / 2 ^ k.val % 2) * 2 ^ k.val := by decide +kernel
theorem fin256 {x : Int} (hx : 0 ≤ x ∧ x < 256) : ∃ y : Fin 256, (y.val : Int) = x := ⟨⟨x.toNat, by omega⟩, by simp; omega⟩
theorem andNot_wt {d : List Int} (hb : Byt d) (i : Int) : bits2 .andNot .u8 (nth d (i / 8)) (wt i) = nth d (i / 8) + (0 - bitOf d i) * wt i := by
  obtain ⟨k, hk, _⟩ := wt_cases i
  obtain ⟨x, hx⟩ := fin256 (hb.nth (i / 8))
  unfold bitOf
  rw [hk, ← hx]
  exact andNot_bit x k
theorem or_wt {d : List Int} (hb : Byt d) (i : Int) : bits2 .or .u8 (nth d (i / 8)) (wt i) = nth d (i / 8) + (1 - bitOf d i) * wt i := by
  obtain ⟨k, hk, _⟩ := wt_cases i
  obtain ⟨x, hx⟩ := fin256 (hb.nth (i / 8))
  unfold bitOf
  rw [hk, ← hx]
  exact or_bit x k
theorem setB_range {d : List Int} (hb : Byt d) (i b : Int) (h : b = 0 ∨ b = 1) : 0 ≤ nth d (i / 8) + (b - bitOf d i) * wt i ∧ nth d (i / 8) + (b - bitOf d i) * wt i < 256 := by
  obtain ⟨k, hk, _⟩ := wt_cases i
  obtain ⟨x, hx⟩ := fin256 (hb.nth (i / 8))
  unfold bitOf
  rw [hk, ← hx]
  rcases h with rfl | rfl
  · exact set_range x k 0
  · exact set_range x k 1
theorem setBit_length (d : List Int) (i b : Int) : (setBit d i b).length = d.length := by simp [setBit]
theorem setBit_byt {d : List Int} (hb : Byt d) (i b : Int) (h : b = 0 ∨ b = 1) : Byt (setBit d i b) := hb.set _ (setB_range hb i b h)
theorem wt_inj {i j : Int} (hi : 0 ≤ i) (hj : 0 ≤ j) (h8 : i / 8 = j / 8) {k l : Fin 8} (hk : (7 - i % 8).toNat = k.val) (hl : (7 - j % 8).toNat = l.val) : k = l ↔ i = j := by
  constructor
  · intro h
    have : k.val = l.val := by rw [h]
    omega
  · rintro rfl
    exact Fin.ext (by omega)
theorem bitOf_setBit {d : List Int} (hl : d.length = 32) (hb : Byt d) {i j b : Int} (hi : 0 ≤ i) (hi2 : i < 256) (hj : 0 ≤ j) (h : b = 0 ∨ b = 1) : bitOf (setBit d i b) j = if j = i then b else bitOf d j := by
  unfold setBit
  show nth _ (j / 8) / wt j % 2 = _
  rw [nth_set (i := i / 8) (by omega) (by omega) (by omega)]
  by_cases h8 : j / 8 = i / 8
  · rw [if_pos h8]
    obtain ⟨k, hk, hk2⟩ := wt_cases i
    obtain ⟨l, hl1, hl2⟩ := wt_cases j
    obtain ⟨x, hx⟩ := fin256 (hb.nth (i / 8))
    have hii := wt_inj hj hi h8 hl2 hk2
    unfold bitOf
    rw [h8, hk, hl1, ← hx]
    have : ∃ c : Fin 2, (c.val : Int) = b := by rcases h with rfl | rfl; exact ⟨0, rfl⟩; exact ⟨1, rfl⟩
    obtain ⟨c, rfl⟩ := this
    rw [set_bits x k c l]
    by_cases hji : j = i
    · rw [if_pos hji, if_pos (hii.2 hji)]
    · rw [if_neg hji, if_neg (fun e => hji (hii.1 e))]
  · rw [if_neg h8, if_neg (fun e => h8 (by rw [e]))]
    rfl
/-- Two paths with the same bits are the same. -/
theorem bits_ext {a b : List Int} (ha : a.length = 32) (hb : b.length = 32) (hA : Byt a) (hB : Byt b) (h : ∀ i : Int, 0 ≤ i → i < 256 → bitOf a i = bitOf b i) : a = b := by
  apply List.ext_getElem (by omega)
  intro j h1 h2
  have e1 : nth a (j : Int) = a[j] := by simp [nth, h1]
  have e2 : nth b (j : Int) = b[j] := by simp [nth, h2]
  rw [← e1, ← e2]
  refine byte_ext (hA.nth _) (hB.nth _) fun k hk => ?_
  have := h (8 * j + (7 - k)) (by omega) (by omega)
  unfold bitOf wt at this
  rw [show (8 * (j : Int) + (7 - k)) / 8 = j by omega, show (7 - (8 * (j : Int) + (7 - k)) % 8).toNat = k by omega] at this
  exact this

/-! ### What a path begins with -/
def preB (x l : Int) : Int := if l ≤ 0 then 0 else if l < 8 then x / 2 ^ (8 - l).toNat * 2 ^ (8 - l).toNat else x
def mix (d : List Int) (n i : Int) : List Int := (List.range 32).map fun (j : Nat) => if (j : Int) < i then preB (nth d j) (n - 8 * j) else nth d j
def pre (d : List Int) (n : Int) : List Int := mix d n 32
theorem mix_length (d : List Int) (n i : Int) : (mix d n i).length = 32 := by simp [mix]
theorem nth_mix (d : List Int) (n i : Int) {j : Int} (h0 : 0 ≤ j) (h1 : j < 32) : nth (mix d n i) j = if j < i then preB (nth d j) (n - 8 * j) else nth d j := by
  have h : j.toNat < 32 := by omega
  unfold mix
  show List.getD _ _ _ = _
  rw [List.getD_eq_getElem?_getD, List.getElem?_map, List.getElem?_range h]
  simp only [Option.map_some, Option.getD_some, Int.toNat_of_nonneg h0]
theorem nth_ext {a b : List Int} (ha : a.length = 32) (hb : b.length = 32) (h : ∀ j : Int, 0 ≤ j → j < 32 → nth a j = nth b j) : a = b := by
  apply List.ext_getElem (by omega)
  intro j h1 h2
  have := h j (by omega) (by omega)
  simpa [nth, h1, h2] using this
theorem mix_zero {d : List Int} (hl : d.length = 32) (n : Int) : mix d n 0 = d :=
  nth_ext (mix_length _ _ _) hl fun j h0 h1 => by rw [nth_mix _ _ _ h0 h1, if_neg (by omega)]
theorem mix_step (d : List Int) (n : Int) {i : Int} (h0 : 0 ≤ i) (h1 : i < 32) {v : Int} (hv : v = preB (nth d i) (n - 8 * i)) : (mix d n i).set i.toNat v = mix d n (i + 1) :=
  nth_ext (by simp [mix_length]) (mix_length _ _ _) fun j hj0 hj1 => by
    rw [nth_set h0 (by rw [mix_length]; omega) hj0, nth_mix _ _ _ hj0 hj1, nth_mix _ _ _ hj0 hj1]
    by_cases hji : j = i
    · subst hji; rw [if_pos rfl, if_pos (by omega), hv]
    · rw [if_neg hji]
      by_cases h : j < i
      · rw [if_pos h, if_pos (by omega)]
      · rw [if_neg h, if_neg (by omega)]
theorem mix_skip (d : List Int) (n : Int) {i : Int} (h0 : 0 ≤ i) (h1 : i < 32) (h : 8 ≤ n - 8 * i) : mix d n i = mix d n (i + 1) :=
  nth_ext (mix_length _ _ _) (mix_length _ _ _) fun j hj0 hj1 => by
    rw [nth_mix _ _ _ hj0 hj1, nth_mix _ _ _ hj0 hj1]
    by_cases hji : j = i
    · subst hji; rw [if_neg (by omega), if_pos (by omega)]; unfold preB; rw [if_neg (by omega), if_neg (by omega)]
    · by_cases hlt : j < i
      · rw [if_pos hlt, if_pos (by omega)]
      · rw [if_neg hlt, if_neg (by omega)]
theorem andNot_pre : ∀ x : Fin 256, ∀ l : Fin 8, 0 < l.val → bits2 .andNot .u8 (x.val : Int) (255 / 2 ^ l.val) = preB x.val l.val := by decide +kernel
theorem preB_bits : ∀ x : Fin 256, ∀ l : Fin 9, ∀ k : Fin 8, preB x.val l.val / 2 ^ k.val % 2 = if 7 - k.val < l.val then (x.val : Int) / 2 ^ k.val % 2 else 0 := by decide +kernel
theorem preB_range : ∀ x : Fin 256, ∀ l : Fin 9, 0 ≤ preB x.val l.val ∧ preB x.val l.val < 256 := by decide +kernel
theorem preB_clip (x l : Int) : ∃ m : Fin 9, preB x l = preB x m.val ∧ (∀ t : Int, 0 ≤ t → t < 8 → (t < l ↔ t < m.val)) := by
  by_cases h0 : l ≤ 0
  · exact ⟨0, by simp [preB, h0], fun t h1 h2 => by simp; omega⟩
  · by_cases h8 : l < 8
    · refine ⟨⟨l.toNat, by omega⟩, ?_, fun t h1 h2 => by simp; omega⟩
      have : ((l.toNat : Nat) : Int) = l := by omega
      simp [this]
    · refine ⟨8, ?_, fun t h1 h2 => ?_⟩
      · show preB x l = preB x 8
        simp [preB, h0, h8]
      · show t < l ↔ t < 8
        omega
theorem pre_byt {d : List Int} (hb : Byt d) (n : Int) : Byt (pre d n) := by
  intro x hx
  obtain ⟨j, hj, rfl⟩ := List.mem_map.1 hx
  have hj' : j < 32 := by simpa using hj
  simp only [if_pos (show (j : Int) < 32 by omega)]
  obtain ⟨m, hm, _⟩ := preB_clip (nth d j) (n - 8 * j)
  obtain ⟨x, hx⟩ := fin256 (hb.nth (j : Int))
  rw [hm, ← hx]
  exact preB_range x m
theorem bitOf_pre {d : List Int} (hb : Byt d) (n : Int) {i : Int} (h0 : 0 ≤ i) (h1 : i < 256) : bitOf (pre d n) i = if i < n then bitOf d i else 0 := by
  obtain ⟨k, hk, hk2⟩ := wt_cases i
  unfold bitOf pre
  rw [nth_mix _ _ _ (by omega) (by omega), if_pos (by omega), hk]
  obtain ⟨m, hm, hm2⟩ := preB_clip (nth d (i / 8)) (n - 8 * (i / 8))
  obtain ⟨x, hx⟩ := fin256 (hb.nth (i / 8))
  rw [hm, ← hx, preB_bits x m k]
  have := hm2 (i % 8) (by omega) (by omega)
  by_cases hin : i < n
  · rw [if_pos hin, if_pos (by omega)]
  · rw [if_neg hin, if_neg (by omega)]
/-- What a path is whose bits are so. -/
theorem pre_unique {d e : List Int} (hb : Byt d) (he : e.length = 32) (hE : Byt e) (n : Int) (h : ∀ i : Int, 0 ≤ i → i < 256 → bitOf e i = if i < n then bitOf d i else 0) : e = pre d n :=
  bits_ext he (mix_length _ _ _) hE (pre_byt hb n) fun i h0 h1 => by rw [h i h0 h1, bitOf_pre hb n h0 h1]
theorem andNot_shr {x l : Int} (hx : 0 ≤ x ∧ x < 256) (h0 : 0 < l) (h8 : l < 8) : bits2 .andNot .u8 x (Int.fdiv 255 (2 ^ (min l.toNat IntKind.u8.bits))) = preB x l := by
  obtain ⟨y, hy⟩ := fin256 hx
  have := andNot_pre y ⟨l.toNat, by omega⟩ (by simp; omega)
  simp only [show ((l.toNat : Nat) : Int) = l by omega] at this
  rw [← hy, ← this]
  have hm : min l.toNat IntKind.u8.bits = l.toNat := by
    show min l.toNat 8 = l.toNat
    omega
  rw [hm, Int.fdiv_eq_ediv_of_nonneg _ (Int.pow_nonneg (by decide))]

/-! ### What two paths have in common -/
def com (a b : List Int) : Int := ((List.range 256).takeWhile fun (k : Nat) => bitOf a k == bitOf b k).length
theorem takeWhile_spec (p : Nat → Bool) : ∀ (n s : Nat), ∃ c, ((List.range' s n).takeWhile p).length = c ∧ c ≤ n ∧ (∀ k, k < c → p (s + k) = true) ∧ (c < n → p (s + c) = false)
  | 0, s => ⟨0, by simp⟩
  | n + 1, s => by
    rw [List.range'_succ, List.takeWhile_cons]
    by_cases h : p s = true
    · obtain ⟨c, h1, h2, h3, h4⟩ := takeWhile_spec p n (s + 1)
      refine ⟨c + 1, by simp [h, h1], by omega, fun k hk => ?_, fun hc => ?_⟩
      · cases k with
        | zero => exact h
        | succ k => rw [show s + (k + 1) = s + 1 + k by omega]; exact h3 k (by omega)
      · rw [show s + (c + 1) = s + 1 + c by omega]; exact h4 (by omega)
    · exact ⟨0, by simp [h], by omega, fun k hk => by omega, fun _ => by simpa using h⟩
theorem com_spec (a b : List Int) : 0 ≤ com a b ∧ com a b ≤ 256 ∧ (∀ k : Int, 0 ≤ k → k < com a b → bitOf a k = bitOf b k) ∧ (com a b < 256 → bitOf a (com a b) ≠ bitOf b (com a b)) := by
  obtain ⟨c, h1, h2, h3, h4⟩ := takeWhile_spec (fun (k : Nat) => bitOf a k == bitOf b k) 256 0
  have hc : com a b = c := by unfold com; rw [List.range_eq_range', h1]
  rw [hc]
  refine ⟨by omega, by omega, fun k hk0 hk => ?_, fun hlt => ?_⟩
  · have := h3 k.toNat (by omega)
    simp only [Nat.zero_add, beq_iff_eq] at this
    rwa [Int.toNat_of_nonneg hk0] at this
  · have := h4 (by omega)
    simpa using this
theorem com_unique {a b : List Int} {c : Int} (h0 : 0 ≤ c) (h1 : c ≤ 256) (h2 : ∀ k : Int, 0 ≤ k → k < c → bitOf a k = bitOf b k) (h3 : c < 256 → bitOf a c ≠ bitOf b c) : c = com a b := by
  obtain ⟨g0, g1, g2, g3⟩ := com_spec a b
  rcases Int.lt_trichotomy c (com a b) with h | h | h
  · exact absurd (g2 c h0 h) (h3 (by omega))
  · exact h
  · exact absurd (h2 _ g0 h) (g3 (by omega))
theorem com_eq {a b : List Int} (ha : a.length = 32) (hb : b.length = 32) (hA : Byt a) (hB : Byt b) : com a b = 256 ↔ a = b := by
  obtain ⟨g0, g1, g2, g3⟩ := com_spec a b
  constructor
  · intro h
    exact bits_ext ha hb hA hB fun i h0 h1 => g2 i h0 (by omega)
  · rintro rfl
    rcases Int.lt_or_eq_of_le g1 with h | h
    · exact absurd rfl (g3 h)
    · exact h
theorem com_comm (a b : List Int) : com a b = com b a := by
  obtain ⟨g0, g1, g2, g3⟩ := com_spec a b
  exact com_unique g0 g1 (fun k h0 h1 => (g2 k h0 h1).symm) (fun h => (g3 h).symm)
def lessB (a b : List Int) : Bool := decide (com a b < 256 ∧ bitOf a (com a b) = 0)
def lz8 (x : Int) : Int := if x ≥ 128 then 0 else if x ≥ 64 then 1 else if x ≥ 32 then 2 else if x ≥ 16 then 3 else if x ≥ 8 then 4 else if x ≥ 4 then 5 else if x ≥ 2 then 6 else if x ≥ 1 then 7 else 8
theorem lz_spec : ∀ x : Fin 256, x.val ≠ 0 → 0 ≤ lz8 x.val ∧ lz8 x.val ≤ 7 ∧ ((x.val : Int) / 2 ^ (7 - lz8 x.val).toNat % 2 ≠ 0) ∧ ∀ j : Fin 8, (j.val : Int) < lz8 x.val → (x.val : Int) / 2 ^ (7 - j.val) % 2 = 0 := by decide +kernel
/-- The first byte that parts them. -/
theorem com_byte {a b : List Int} (hA : Byt a) (hB : Byt b) {i : Int} (h0 : 0 ≤ i) (h1 : i < 32) (heq : ∀ j : Int, 0 ≤ j → j < i → nth a j = nth b j) (hne : bits2 .xor .u8 (nth a i) (nth b i) ≠ 0) :
    8 * i + lz8 (bits2 .xor .u8 (nth a i) (nth b i)) = com a b := by
  obtain ⟨z, hz⟩ := fin256 (xor_range (hA.nth i) (hB.nth i))
  have hz0 : z.val ≠ 0 := by rintro h; exact hne (by rw [← hz, h]; rfl)
  obtain ⟨g0, g1, g2, g3⟩ := lz_spec z hz0
  rw [← hz]
  refine com_unique (by omega) (by omega) (fun k hk0 hk1 => ?_) (fun _ => ?_)
  · by_cases hlt : k / 8 < i
    · unfold bitOf; rw [heq _ (by omega) hlt]
    · have hki : k / 8 = i := by omega
      have := g3 ⟨(k % 8).toNat, by omega⟩ (by simp; omega)
      rw [hz] at this
      unfold bitOf wt
      rw [hki]
      have e : (7 - k % 8).toNat = 7 - (k % 8).toNat := by omega
      rw [e]
      exact (xor_bit (hA.nth i) (hB.nth i) _).1 this
  · intro h
    apply g2
    unfold bitOf wt at h
    rw [show (8 * i + lz8 (z.val : Int)) / 8 = i by omega, show (7 - (8 * i + lz8 (z.val : Int)) % 8).toNat = (7 - lz8 (z.val : Int)).toNat by omega] at h
    have := (xor_bit (hA.nth i) (hB.nth i) (7 - lz8 (z.val : Int)).toNat).2 h
    rw [← hz] at this
    exact this
theorem com_all {a b : List Int} (h : ∀ j : Int, 0 ≤ j → j < 32 → nth a j = nth b j) : 256 = com a b :=
  com_unique (by omega) (by omega) (fun k h0 h1 => by unfold bitOf; rw [h _ (by omega) (by omega)]) (fun h => by omega)
/-! ### Less -/
theorem ba_get {l : List Int} (hl : Byt l) {i : Nat} (h : i < l.length) : ((ba l)[i]!).toNat = (l[i]).toNat := by
  have hs : i < (ba l).size := by rw [ba_size]; exact h
  rw [getElem!_pos (ba l) i hs]
  have : (ba l)[i] = (l[i]).toNat.toUInt8 := by
    show (ba l).data[i]'_ = _
    simp [ba]
  rw [this]
  have := hl _ (List.getElem_mem h)
  simp
  omega
def cmpB (a b : List Int) : Int := Extern.BytealgCompare.cmp (ba a) (ba b)
theorem nth_nat {d : List Int} {i : Nat} (h : i < d.length) : nth d (i : Int) = d[i] := by simp [nth, h]
theorem cmp_less {a b : List Int} (ha : a.length = 32) (hb : b.length = 32) (hA : Byt a) (hB : Byt b) : cmpB a b < 0 ↔ lessB a b = true := by
  have hget : ∀ i : Nat, i < 32 → ((ba a)[i]! != (ba b)[i]!) = decide (nth a i ≠ nth b i) := by
    intro i hi
    have e1 := ba_get hA (i := i) (by omega)
    have e2 := ba_get hB (i := i) (by omega)
    rw [nth_nat (by omega), nth_nat (by omega)]
    have h1 := hA _ (List.getElem_mem (show i < a.length by omega))
    have h2 := hB _ (List.getElem_mem (show i < b.length by omega))
    rw [Bool.eq_iff_iff]
    simp only [bne_iff_ne, ne_eq, decide_eq_true_eq, ← UInt8.toNat_inj, e1, e2]
    omega
  unfold cmpB Extern.BytealgCompare.cmp
  simp only [ba_size, ha, hb, Nat.min_self]
  cases hf : (List.range 32).find? fun i => (ba a)[i]! != (ba b)[i]! with
  | none =>
    have hall := List.find?_eq_none.1 hf
    have hab : a = b := nth_ext ha hb fun j h0 h1 => by
      have := hall j.toNat (by simp; omega)
      rw [hget _ (by omega), Int.toNat_of_nonneg h0] at this
      simpa using this
    subst hab
    have : com a a = 256 := (com_eq ha ha hA hA).2 rfl
    simp [lessB, this]
  | some i =>
    obtain ⟨hp, as, bs, hr, hall⟩ := List.find?_eq_some_iff_append.1 hf
    have hi : i ∈ List.range 32 := by rw [hr]; simp
    have hi32 : i < 32 := by simpa using hi
    have hpre : ∀ j : Nat, j < i → nth a j = nth b j := by
      intro j hj
      have hsub : j ∈ as := by
        have hl : as.length = i := by
          have h1 : (List.range 32)[as.length]? = some i := by rw [hr]; simp
          rw [List.getElem?_range (by have := congrArg List.length hr; simp at this; omega)] at h1
          simpa using h1
        have h2 : (List.range 32)[j]? = as[j]? := by rw [hr, List.getElem?_append_left (by omega)]
        rw [List.getElem?_range (by omega)] at h2
        exact List.mem_of_getElem? h2.symm
      have := hall j hsub
      rw [hget _ (by omega)] at this
      simpa using this
    rw [hget _ hi32] at hp
    have hne : nth a i ≠ nth b i := by simpa using hp
    have hx : bits2 .xor .u8 (nth a i) (nth b i) ≠ 0 := fun h => hne ((xor_zero (hA.nth _) (hB.nth _)).1 h)
    have hc := com_byte hA hB (i := (i : Int)) (by omega) (by omega) (fun j h0 h1 => by have := hpre j.toNat (by omega); rwa [Int.toNat_of_nonneg h0] at this) hx
    obtain ⟨z, hz⟩ := fin256 (xor_range (hA.nth i) (hB.nth i))
    obtain ⟨g0, g1, g2, g3⟩ := lz_spec z (fun h => hx (by rw [← hz, h]; rfl))
    have hcs := com_spec a b
    have hlt : com a b < 256 := by rw [← hc, ← hz]; omega
    have hk8 : com a b / 8 = i := by rw [← hc, ← hz]; omega
    have e1 := ba_get hA (i := i) (by omega)
    have e2 := ba_get hB (i := i) (by omega)
    have n1 := nth_nat (d := a) (i := i) (by omega)
    have n2 := nth_nat (d := b) (i := i) (by omega)
    have r1 := hA.nth i
    have r2 := hB.nth i
    have hltb : ((ba a)[i]! < (ba b)[i]!) ↔ nth a i < nth b i := by
      rw [UInt8.lt_iff_toNat_lt, e1, e2, n1, n2]
      rw [n1] at r1
      rw [n2] at r2
      omega
    -- the bits ahead of the one that parts them are the same, that one decides
    have key : nth a i < nth b i ↔ bitOf a (com a b) = 0 := by
      obtain ⟨k, hk, hk2⟩ := wt_cases (com a b)
      have hd := hcs.2.2.2 hlt
      have hsame : ∀ m : Nat, m < 8 → k.val < m → nth a i / 2 ^ m % 2 = nth b i / 2 ^ m % 2 := by
        intro m hm hkm
        have := hcs.2.2.1 (8 * i + (7 - m)) (by omega) (by omega)
        unfold bitOf wt at this
        rw [show (8 * (i : Int) + (7 - m)) / 8 = i by omega, show (7 - (8 * (i : Int) + (7 - m)) % 8).toNat = m by omega] at this
        exact this
      unfold bitOf at hd ⊢
      rw [hk8, hk] at hd ⊢
      obtain ⟨x, hx1⟩ := fin256 r1
      obtain ⟨y, hy1⟩ := fin256 r2
      rw [← hx1, ← hy1] at hsame hd ⊢
      have hq : (x.val : Int) / 2 ^ (k.val + 1) = y.val / 2 ^ (k.val + 1) := by
        have hb1 : 0 ≤ (x.val : Int) / 2 ^ (k.val + 1) ∧ (x.val : Int) / 2 ^ (k.val + 1) < 256 := ⟨Int.ediv_nonneg (by omega) (Int.pow_nonneg (by decide)), Int.lt_of_le_of_lt (Int.ediv_le_self _ (by omega)) (by omega)⟩
        have hb2 : 0 ≤ (y.val : Int) / 2 ^ (k.val + 1) ∧ (y.val : Int) / 2 ^ (k.val + 1) < 256 := ⟨Int.ediv_nonneg (by omega) (Int.pow_nonneg (by decide)), Int.lt_of_le_of_lt (Int.ediv_le_self _ (by omega)) (by omega)⟩
        refine byte_ext hb1 hb2 fun m hm => ?_
        rw [Int.ediv_ediv_of_nonneg (Int.pow_nonneg (by decide)), Int.ediv_ediv_of_nonneg (Int.pow_nonneg (by decide)), ← Int.pow_add]
        by_cases hm8 : k.val + 1 + m < 8
        · exact hsame _ hm8 (by omega)
        · have h256 : (256 : Int) ≤ 2 ^ (k.val + 1 + m) := by
            have : (2 : Int) ^ 8 ≤ 2 ^ (k.val + 1 + m) := by
              obtain ⟨t, ht⟩ : ∃ t, k.val + 1 + m = 8 + t := ⟨k.val + 1 + m - 8, by omega⟩
              rw [ht, Int.pow_add]
              have : (0 : Int) < 2 ^ t := Int.pow_pos (by decide)
              have h8 : (2 : Int) ^ 8 = 256 := by decide
              rw [h8]
              omega
            exact this
          rw [Int.ediv_eq_zero_of_lt (by omega) (by omega), Int.ediv_eq_zero_of_lt (by omega) (by omega)]
      have hp : (2 : Int) ^ (k.val + 1) = 2 * 2 ^ k.val := by rw [Int.pow_succ, Int.mul_comm]
      rw [hp, Int.mul_comm, ← Int.ediv_ediv_of_nonneg (Int.pow_nonneg (by decide)), ← Int.ediv_ediv_of_nonneg (Int.pow_nonneg (by decide))] at hq
      have hpos : (0 : Int) < 2 ^ k.val := Int.pow_pos (by decide)
      constructor
      · intro h
        have hle : (x.val : Int) / 2 ^ k.val ≤ y.val / 2 ^ k.val := Int.ediv_le_ediv hpos (by omega)
        omega
      · intro h
        apply Int.lt_of_not_ge
        intro hge
        have hle : (y.val : Int) / 2 ^ k.val ≤ x.val / 2 ^ k.val := Int.ediv_le_ediv hpos (by omega)
        omega
    simp only [lessB, decide_eq_true_eq, hlt, true_and]
    rw [← key]
    by_cases h : (ba a)[i]! < (ba b)[i]!
    · simp [h, hltb.1 h]
    · simp [h]
      exact Int.not_lt.1 (fun h2 => h (hltb.2 h2))
def withV (d : List Int) (i b : Int) : List Int := if 0 ≤ i ∧ i < 256 then (if b = 0 ∨ b = 1 then setBit d i b else zd) else zd
def withE (i b : Int) : Int := if 0 ≤ i ∧ i < 256 then (if b = 0 ∨ b = 1 then 0 else 1) else 20
theorem withV_out (d : List Int) (i b : Int) (h : ¬ (0 ≤ i ∧ i < 256)) : withV d i b = zd := if_neg h
theorem withE_out (i b : Int) (h : ¬ (0 ≤ i ∧ i < 256)) : withE i b = 20 := if_neg h
theorem withV_in (d : List Int) (i b : Int) (h0 : 0 ≤ i) (h1 : i < 256) (h : b = 0 ∨ b = 1) : withV d i b = setBit d i b := by unfold withV; rw [if_pos ⟨h0, h1⟩, if_pos h]
theorem withE_in (i b : Int) (h0 : 0 ≤ i) (h1 : i < 256) (h : b = 0 ∨ b = 1) : withE i b = 0 := by unfold withE; rw [if_pos ⟨h0, h1⟩, if_pos h]
theorem withV_arg (d : List Int) (i b : Int) (h0 : 0 ≤ i) (h1 : i < 256) (h : ¬ (b = 0 ∨ b = 1)) : withV d i b = zd := by unfold withV; rw [if_pos ⟨h0, h1⟩, if_neg h]
theorem withE_arg (i b : Int) (h0 : 0 ≤ i) (h1 : i < 256) (h : ¬ (b = 0 ∨ b = 1)) : withE i b = 1 := by unfold withE; rw [if_pos ⟨h0, h1⟩, if_neg h]
theorem withV_length {d : List Int} (hl : d.length = 32) (i b : Int) : (withV d i b).length = 32 := by
  unfold withV; split <;> (try split) <;> first | exact zd_length | (rw [setBit_length]; exact hl)
theorem withV_byt {d : List Int} (hb : Byt d) (i b : Int) : Byt (withV d i b) := by
  unfold withV
  split
  · split
    · rename_i h; exact setBit_byt hb i b h
    · exact zd_byt
  · exact zd_byt
def preV (d : List Int) (n : Int) : List Int := if 0 ≤ n ∧ n ≤ 256 then pre d n else zd
def preE (n : Int) : Int := if 0 ≤ n ∧ n ≤ 256 then 0 else 20
theorem preV_out (d : List Int) (n : Int) (h : ¬ (0 ≤ n ∧ n ≤ 256)) : preV d n = zd := if_neg h
theorem preE_out (n : Int) (h : ¬ (0 ≤ n ∧ n ≤ 256)) : preE n = 20 := if_neg h
theorem preV_in (d : List Int) (n : Int) (h0 : 0 ≤ n) (h1 : n ≤ 256) : preV d n = mix d n 32 := if_pos ⟨h0, h1⟩
theorem preE_in (n : Int) (h0 : 0 ≤ n) (h1 : n ≤ 256) : preE n = 0 := if_pos ⟨h0, h1⟩
theorem preV_length (d : List Int) (n : Int) : (preV d n).length = 32 := by unfold preV; split; exact mix_length _ _ _; rfl
theorem preV_byt {d : List Int} (hb : Byt d) (n : Int) : Byt (preV d n) := by unfold preV; split; exact pre_byt hb n; exact zd_byt
theorem byt128 : Byt (128 :: List.replicate 31 0) := by intro x hx; simp at hx; omega
theorem byt129 : Byt (129 :: List.replicate 31 0) := by intro x hx; simp at hx; omega
theorem lz8_range (x : Int) (h0 : 0 ≤ x) (h1 : x < 256) : 0 ≤ lz8 x ∧ lz8 x ≤ 8 := by
  unfold lz8
  repeat' split
  all_goals omega
theorem less_self {a b : List Int} (h : a = b) : lessB a b = false := by
  subst h
  unfold lessB
  rw [decide_eq_false_iff_not]
  rintro ⟨h1, h2⟩
  exact (com_spec a a).2.2.2 h1 rfl
theorem len8_get {s : ByteArray} (x : Int) (h0 : 0 ≤ x) (h1 : x < 256) (h : ∀ y : Fin 256, s[y.val]?.map (fun b => (b.toNat : Int)) = some (8 - lz8 y.val)) : s[x.toNat]?.map (fun b => (b.toNat : Int)) = some (8 - lz8 x) := by
  obtain ⟨y, hy⟩ := fin256 ⟨h0, h1⟩
  have := h y
  rw [← hy]
  simpa using this
end Go.Sx
namespace Go.Sx
theorem wt_half (k : Int) (h : 0 ≤ k) : (128 : Int) / 2 ^ (k + 1).toNat = 128 / 2 ^ k.toNat / 2 := by
  rw [show (k + 1).toNat = k.toNat + 1 by omega, Int.pow_succ, Int.ediv_ediv_of_nonneg (Int.pow_nonneg (by decide))]
theorem wt_bd (k : Int) (h : 0 ≤ k) : 0 ≤ (128 : Int) / 2 ^ k.toNat ∧ (128 : Int) / 2 ^ k.toNat ≤ 9223372036854775807 :=
  ⟨Int.ediv_nonneg (by decide) (Int.pow_nonneg (by decide)), Int.le_trans (Int.ediv_le_self _ (by decide)) (by decide)⟩
theorem wt_last (i : Int) : (128 : Int) / 2 ^ (i % 8).toNat = wt i := by
  have h : i % 8 = 0 ∨ i % 8 = 1 ∨ i % 8 = 2 ∨ i % 8 = 3 ∨ i % 8 = 4 ∨ i % 8 = 5 ∨ i % 8 = 6 ∨ i % 8 = 7 := by omega
  unfold wt
  rcases h with h | h | h | h | h | h | h | h <;> rw [h] <;> decide
theorem wt_le (i : Int) : wt i ≤ 128 := by
  have h : i % 8 = 0 ∨ i % 8 = 1 ∨ i % 8 = 2 ∨ i % 8 = 3 ∨ i % 8 = 4 ∨ i % 8 = 5 ∨ i % 8 = 6 ∨ i % 8 = 7 := by omega
  unfold wt
  rcases h with h | h | h | h | h | h | h | h <;> rw [h] <;> decide
theorem setB_bd {d : List Int} (hb : Byt d) (i b : Int) (h : b = 0 ∨ b = 1) :
    (-9223372036854775808 ≤ (b - bitOf d i) * wt i ∧ (b - bitOf d i) * wt i ≤ 9223372036854775807) ∧ (-9223372036854775808 ≤ nth d (i / 8) + (b - bitOf d i) * wt i ∧ nth d (i / 8) + (b - bitOf d i) * wt i ≤ 9223372036854775807) ∧ (0 ≤ nth d (i / 8) + (b - bitOf d i) * wt i ∧ nth d (i / 8) + (b - bitOf d i) * wt i ≤ 255) := by
  have h1 := setB_range hb i b h
  have h2 := hb.nth (i / 8)
  generalize (b - bitOf d i) * wt i = z at *
  omega
end Go.Sx
namespace Go.Sx
theorem rpre_step {d c : List Int} {n k : Int} (hc : c.length = 32) (hcb : Byt c) (h0 : 0 ≤ n) (hk0 : n ≤ k) (hk : k < 256) (hbits : ∀ i : Int, 0 ≤ i → i < 256 → bitOf c i = if n ≤ i ∧ i < k then 0 else bitOf d i) :
    ∀ i : Int, 0 ≤ i → i < 256 → bitOf (withV c k 0) i = if n ≤ i ∧ i < k + 1 then 0 else bitOf d i := by
  intro i g0 g1
  rw [withV_in c k 0 (by omega) (by omega) (.inl rfl), bitOf_setBit hc hcb (by omega) (by omega) g0 (.inl rfl), hbits i g0 g1]
  by_cases e : i = k
  · subst e; rw [if_pos rfl, if_pos (by omega)]
  · rw [if_neg e]
    by_cases e2 : n ≤ i ∧ i < k
    · rw [if_pos e2, if_pos (by omega)]
    · rw [if_neg e2, if_neg (by omega)]
theorem rpre_last {d c : List Int} {n : Int} (hb : Byt d) (hc : c.length = 32) (hcb : Byt c) (hbits : ∀ i : Int, 0 ≤ i → i < 256 → bitOf c i = if n ≤ i ∧ i < 256 then 0 else bitOf d i) : c = mix d n 32 :=
  pre_unique hb hc hcb n fun i h0 h1 => by
    rw [hbits i h0 h1]
    by_cases e : i < n
    · rw [if_neg (by omega), if_pos e]
    · rw [if_pos (by omega), if_neg e]
end Go.Sx
namespace Go.Sx
theorem pre_eq_iff {a b : List Int} (hA : Byt a) (hB : Byt b) {n : Int} (h0 : 0 ≤ n) (h1 : n ≤ 256) : preV a n = preV b n ↔ n ≤ com a b := by
  obtain ⟨g0, g1, g2, g3⟩ := com_spec a b
  rw [preV_in a n h0 h1, preV_in b n h0 h1]
  constructor
  · intro h
    apply Int.le_of_not_gt
    intro hlt
    have : bitOf (pre a n) (com a b) = bitOf (pre b n) (com a b) := congrArg (fun l => bitOf l (com a b)) h
    rw [bitOf_pre hA n g0 (by omega), bitOf_pre hB n g0 (by omega), if_pos hlt, if_pos hlt] at this
    exact g3 (by omega) this
  · intro h
    refine bits_ext (mix_length _ _ _) (mix_length _ _ _) (pre_byt hA n) (pre_byt hB n) fun i hi0 hi1 => ?_
    rw [show mix a n 32 = pre a n from rfl, show mix b n 32 = pre b n from rfl, bitOf_pre hA n hi0 hi1, bitOf_pre hB n hi0 hi1]
    by_cases e : i < n
    · rw [if_pos e, if_pos e, g2 i hi0 (by omega)]
    · rw [if_neg e, if_neg e]
theorem pre_eq_bool {a b : List Int} (hA : Byt a) (hB : Byt b) {n : Int} (h0 : 0 ≤ n) (h1 : n ≤ 256) : (decide (preV a n = preV b n) == decide (n ≤ com a b)) = true := by
  rw [beq_iff_eq, decide_eq_decide]
  exact pre_eq_iff hA hB h0 h1
theorem com_pre {a : List Int} (hA : Byt a) {n : Int} (h0 : 0 ≤ n) (h1 : n ≤ 256) : n ≤ com a (preV a n) := by
  obtain ⟨g0, g1, g2, g3⟩ := com_spec a (preV a n)
  apply Int.le_of_not_gt
  intro hlt
  apply g3 (by omega)
  rw [preV_in a n h0 h1, show mix a n 32 = pre a n from rfl] at *
  rw [bitOf_pre hA n g0 (by omega), if_pos hlt]
theorem less_iff (a b : List Int) : lessB a b = true ↔ com a b < 256 ∧ bitOf a (com a b) = 0 := by simp [lessB]
theorem less_two {a b : List Int} (ha : a.length = 32) (hb : b.length = 32) (hA : Byt a) (hB : Byt b) (hne : a ≠ b) : lessB b a = !lessB a b := by
  obtain ⟨g0, g1, g2, g3⟩ := com_spec a b
  have hlt : com a b < 256 := by
    rcases Int.lt_or_eq_of_le g1 with h | h
    · exact h
    · exact absurd ((com_eq ha hb hA hB).1 h) hne
  have h1 := g3 hlt
  have t1 := bitOf_two a (com a b)
  have t2 := bitOf_two b (com a b)
  rw [Bool.eq_iff_iff, less_iff, Bool.not_eq_true', ← Bool.not_eq_true, less_iff, com_comm b a]
  omega
theorem less_trans {a b c : List Int} (h1 : lessB a b = true) (h2 : lessB b c = true) : lessB a c = true := by
  rw [less_iff] at *
  obtain ⟨g0, g1, g2, g3⟩ := com_spec a b
  obtain ⟨k0, k1, k2, k3⟩ := com_spec b c
  have d1 := g3 h1.1
  have d2 := k3 h2.1
  have t2 := bitOf_two b (com a b)
  have t3 := bitOf_two c (com b c)
  have hm : (com a b ≤ com b c ∧ com a b = com a c ∧ bitOf a (com a c) = 0) ∨ (com b c < com a b ∧ com b c = com a c ∧ bitOf a (com a c) = 0) := by
    by_cases hle : com a b ≤ com b c
    · left
      have hb : com a b = com a c := by
        refine com_unique g0 g1 (fun k q0 q1 => (g2 k q0 q1).trans (k2 k q0 (by omega))) (fun _ => ?_)
        by_cases he : com a b = com b c
        · rw [he] at d1 h1 ⊢
          omega
        · rw [← k2 _ g0 (by omega)]
          exact d1
      exact ⟨hle, hb, by rw [← hb]; exact h1.2⟩
    · right
      have hb : com b c = com a c := by
        refine com_unique k0 k1 (fun k q0 q1 => (g2 k q0 (by omega)).trans (k2 k q0 q1)) (fun _ => ?_)
        rw [g2 _ k0 (by omega)]
        exact d2
      exact ⟨by omega, hb, by rw [← hb, g2 _ k0 (by omega)]; exact h2.2⟩
  rcases hm with ⟨_, e, h⟩ | ⟨_, e, h⟩
  · exact ⟨by omega, h⟩
  · exact ⟨by omega, h⟩
/-- A bit that is turned is where the two paths part. -/
theorem turn_com {p : List Int} (hl : p.length = 32) (hb : Byt p) {i b : Int} (h0 : 0 ≤ i) (h1 : i < 256) (h : b = 0 ∨ b = 1) (hne : p ≠ setBit p i b) : com p (setBit p i b) = i ∧ lessB p (setBit p i b) = decide (b = 1) := by
  have hbit : bitOf p i ≠ b := by
    intro e
    apply hne
    refine bits_ext hl (by rw [setBit_length]; exact hl) hb (setBit_byt hb i b h) fun j j0 j1 => ?_
    rw [bitOf_setBit hl hb h0 h1 j0 h]
    by_cases hji : j = i
    · rw [if_pos hji, hji, e]
    · rw [if_neg hji]
  have hc : i = com p (setBit p i b) := by
    refine com_unique h0 (by omega) (fun k k0 k1 => ?_) (fun _ => ?_)
    · rw [bitOf_setBit hl hb h0 h1 k0 h, if_neg (by omega)]
    · rw [bitOf_setBit hl hb h0 h1 h0 h, if_pos rfl]
      exact hbit
  refine ⟨hc.symm, ?_⟩
  have t := bitOf_two p i
  rw [Bool.eq_iff_iff, less_iff, ← hc, decide_eq_true_eq]
  omega
end Go.Sx
namespace Go.Sx
theorem turn_bits {d : List Int} (hl : d.length = 32) (hb : Byt d) {i b k : Int} (h0 : 0 ≤ i) (h1 : i < 256) (h : b = 0 ∨ b = 1) (k0 : 0 ≤ k) (k1 : k < 256) : (k ≠ i → bitV (withV d i b) k = bitV d k) ∧ (k = i → bitV (withV d i b) k = b) := by
  unfold bitV
  rw [if_pos ⟨k0, k1⟩, if_pos ⟨k0, k1⟩, withV_in d i b h0 h1 h, bitOf_setBit hl hb h0 h1 k0 h]
  exact ⟨fun e => if_neg e, fun e => if_pos e⟩
end Go.Sx

/- Words of 32 bits, and what a sum of layer 2 is: plain facts, no program in sight. -/
set_option linter.unusedVariables false
set_option linter.unusedSimpArgs false
namespace Go.Sx
abbrev Wd := BitVec 32
def wi (x : Wd) : Int := (x.toNat : Int)
abbrev wv (x : Wd) : Value := .int .u32 (wi x)
def wl (l : List Wd) : List Value := l.map wv
def wn (n : Int) : Wd := BitVec.ofInt 32 n
theorem wi_range (x : Wd) : 0 ≤ wi x ∧ wi x < 4294967296 := by
  have := x.isLt
  unfold wi
  omega
theorem wn_wi (x : Wd) : wn (wi x) = x := by
  unfold wn wi
  rw [BitVec.ofInt_natCast, BitVec.ofNat_toNat, BitVec.setWidth_eq]
theorem wi_wn {n : Int} (h0 : 0 ≤ n) (h1 : n < 4294967296) : wi (wn n) = n := by
  unfold wn wi
  rw [BitVec.toNat_ofInt]
  omega
theorem w_of (n : Int) : IntKind.u32.wrap n = wi (wn n) := by
  rw [IntKind.wrap_u32]
  unfold wn wi
  rw [BitVec.toNat_ofInt]
  omega
theorem w_add (x y : Wd) : IntKind.u32.wrap (wi x + wi y) = wi (x + y) := by
  rw [IntKind.wrap_u32]
  unfold wi
  rw [BitVec.toNat_add]
  omega
theorem w_back (x : Wd) : IntKind.u32.wrap (wi x) = wi x := Go.IntWalk.u32_in _ (by have := wi_range x; omega)
theorem w_xor (x y : Wd) : bits2 .xor .u32 (wi x) (wi y) = wi (x ^^^ y) := by
  show IntKind.u32.wrap ((wn (wi x) ^^^ wn (wi y) : Wd).toNat : Int) = _
  rw [wn_wi, wn_wi]
  exact w_back _
theorem w_and (x y : Wd) : bits2 .and .u32 (wi x) (wi y) = wi (x &&& y) := by
  show IntKind.u32.wrap ((wn (wi x) &&& wn (wi y) : Wd).toNat : Int) = _
  rw [wn_wi, wn_wi]
  exact w_back _
theorem w_or (x y : Wd) : bits2 .or .u32 (wi x) (wi y) = wi (x ||| y) := by
  show IntKind.u32.wrap ((wn (wi x) ||| wn (wi y) : Wd).toNat : Int) = _
  rw [wn_wi, wn_wi]
  exact w_back _
theorem w_not (x : Wd) : bits2 .xor .u32 4294967295 (wi x) = wi (~~~x) := by
  show IntKind.u32.wrap ((wn 4294967295 ^^^ wn (wi x) : Wd).toNat : Int) = _
  rw [wn_wi, show wn 4294967295 = BitVec.allOnes 32 by decide, BitVec.allOnes_xor]
  exact w_back _
theorem w_shr (x : Wd) (n : Nat) (h : n ≤ 32) : (wi x).fdiv (2 ^ (min (n : Int).toNat IntKind.u32.bits)) = wi (x >>> n) := by
  have h1 : min (n : Int).toNat IntKind.u32.bits = n := by rw [Int.toNat_natCast]; exact Nat.min_eq_left h
  rw [h1]
  unfold wi
  rw [BitVec.toNat_ushiftRight, Nat.shiftRight_eq_div_pow, Int.fdiv_eq_ediv_of_nonneg _ (by exact Int.pow_nonneg (by omega)), Int.natCast_ediv, Int.natCast_pow]
  rfl
theorem w_shl (x : Wd) (n : Nat) (h : n ≤ 32) : IntKind.u32.wrap (wi x * 2 ^ (min (n : Int).toNat IntKind.u32.bits)) = wi (x <<< n) := by
  have h1 : min (n : Int).toNat IntKind.u32.bits = n := by rw [Int.toNat_natCast]; exact Nat.min_eq_left h
  rw [h1, IntKind.wrap_u32]
  unfold wi
  rw [BitVec.toNat_shiftLeft, Nat.shiftLeft_eq, Int.natCast_emod, Int.natCast_mul, Int.natCast_pow]
  rfl
/-- Turned right. -/
def rr (k : Nat) (x : Wd) : Wd := x >>> k ||| x <<< (32 - k)
theorem rr_comm (k : Nat) (x : Wd) : x <<< (32 - k) ||| x >>> k = rr k x := by unfold rr; exact BitVec.or_comm _ _
theorem and31 : ∀ k : Nat, k < 32 → 1 ≤ k → bits2 .and .u64 (18446744073709551616 - (k : Int)) 31 = 32 - (k : Int) := by decide +kernel
theorem wl_len (l : List Wd) : (wl l).length = l.length := by simp [wl]
def nw (l : List Wd) (i : Int) : Wd := l.getD i.toNat 0
theorem wl_get {l : List Wd} {i : Int} (h0 : 0 ≤ i) (h1 : i < l.length) : (wl l)[i.toNat]? = some (wv (nw l i)) := by
  have : i.toNat < l.length := by omega
  unfold wl nw
  rw [List.getElem?_map, List.getElem?_eq_getElem this, List.getD_eq_getElem?_getD, List.getElem?_eq_getElem this]
  rfl
theorem wl_set (l : List Wd) (i : Nat) (x : Wd) : (wl l).set i (wv x) = wl (l.set i x) := by simp [wl, List.map_set]
theorem wl_one (l : List Wd) : ∀ u ∈ wl l, u.oneCell' = true := by
  intro u hu
  simp only [wl, List.mem_map] at hu
  obtain ⟨n, _, rfl⟩ := hu
  rfl

/-! ### A block -/
def s0 (x : Wd) : Wd := rr 7 x ^^^ rr 18 x ^^^ x >>> 3
def s1 (x : Wd) : Wd := rr 17 x ^^^ rr 19 x ^^^ x >>> 10
def S1 (e : Wd) : Wd := rr 6 e ^^^ rr 11 e ^^^ rr 25 e
def S0 (a : Wd) : Wd := rr 2 a ^^^ rr 13 a ^^^ rr 22 a
def ch (e f g : Wd) : Wd := e &&& (f ^^^ g) ^^^ g
def mj (a b c : Wd) : Wd := a &&& b ||| c &&& (a ||| b)
theorem ch_eq (e f g : Wd) : e &&& f ^^^ ~~~e &&& g = ch e f g := by
  unfold ch
  ext i hi
  simp
  cases e[i] <;> cases f[i] <;> cases g[i] <;> rfl
theorem mj_eq (a b c : Wd) : a &&& b ^^^ a &&& c ^^^ b &&& c = mj a b c := by
  unfold mj
  ext i hi
  simp
  cases a[i] <;> cases b[i] <;> cases c[i] <;> rfl
structure R8 where
  a : Wd
  b : Wd
  c : Wd
  d : Wd
  e : Wd
  f : Wd
  g : Wd
  h : Wd
  deriving DecidableEq
def R8.l (r : R8) : List Wd := [r.a, r.b, r.c, r.d, r.e, r.f, r.g, r.h]
theorem R8.l_len (r : R8) : r.l.length = 8 := rfl
def R8.add (r s : R8) : R8 := ⟨r.a + s.a, r.b + s.b, r.c + s.c, r.d + s.d, r.e + s.e, r.f + s.f, r.g + s.g, r.h + s.h⟩
def one8 (r : R8) (k x : Wd) : Wd := r.h + S1 r.e + ch r.e r.f r.g + k + x
def two8 (r : R8) : Wd := S0 r.a + mj r.a r.b r.c
def shStp (r : R8) (k x : Wd) : R8 := ⟨one8 r k x + two8 r, r.a, r.b, r.c, r.d + one8 r k x, r.e, r.f, r.g⟩
/-- The word at a place of a block. -/
def wd (bl : List Int) (t : Nat) : Wd := wn (bl.getD (4 * t) 0 * 16777216 + bl.getD (4 * t + 1) 0 * 65536 + bl.getD (4 * t + 2) 0 * 256 + bl.getD (4 * t + 3) 0)
def nx (s : List Wd) (t : Nat) : Wd := s.getD (t - 16) 0 + s0 (s.getD (t - 15) 0) + s.getD (t - 7) 0 + s1 (s.getD (t - 2) 0)
def sch (bl : List Int) : Nat → List Wd
  | 0 => []
  | t + 1 => sch bl t ++ [if t < 16 then wd bl t else nx (sch bl t) t]
theorem sch_len (bl : List Int) : ∀ t, (sch bl t).length = t
  | 0 => rfl
  | t + 1 => by rw [sch, List.length_append, sch_len bl t]; rfl
def rnd (K : List Wd) (x : List Wd) (r : R8) : Nat → R8
  | 0 => r
  | t + 1 => shStp (rnd K x r t) (K.getD t 0) (x.getD t 0)
def blk (K : List Wd) (r : R8) (bl : List Int) : R8 := r.add (rnd K (sch bl 64) r 64)
/-- The array of words, so far as it is made. -/
def arr (bl : List Int) (t : Nat) : List Wd := sch bl t ++ List.replicate (64 - t) 0
theorem arr_len (bl : List Int) {t : Nat} (h : t ≤ 64) : (arr bl t).length = 64 := by
  unfold arr
  rw [List.length_append, sch_len, List.length_replicate]
  omega
theorem arr_get (bl : List Int) {t : Nat} {i : Int} {j : Nat} (hi : i = j) (hj : j < t) : nw (arr bl t) i = (sch bl t).getD j 0 := by
  subst hi
  unfold nw arr
  rw [Int.toNat_natCast, List.getD_eq_getElem?_getD, List.getElem?_append_left (by rw [sch_len]; exact hj), ← List.getD_eq_getElem?_getD]
theorem arr_set (bl : List Int) {t : Nat} (h : t < 64) : (arr bl t).set t (if t < 16 then wd bl t else nx (sch bl t) t) = arr bl (t + 1) := by
  unfold arr
  rw [List.set_append_right _ _ (by rw [sch_len]; exact Nat.le_refl _), sch_len, Nat.sub_self, show 64 - t = (64 - (t + 1)) + 1 by omega, List.replicate_succ, List.set_cons_zero, sch, List.append_assoc]
  rfl
theorem arr_end (bl : List Int) : arr bl 64 = sch bl 64 := by
  unfold arr
  simp
/-! ### The bytes of a word -/
theorem or_bytes {A x : Int} (n : Nat) (h0 : 0 ≤ A) (h1 : A * 2 ^ n < 4294967296) (h2 : 0 ≤ x) (h3 : x < 2 ^ n) (h4 : x < 4294967296) : bits2 .or .u32 (A * 2 ^ n) x = A * 2 ^ n + x := by
  show IntKind.u32.wrap ((wn (A * 2 ^ n) ||| wn x : Wd).toNat : Int) = _
  have e1 : 0 ≤ A * 2 ^ n := Int.mul_nonneg h0 (Int.pow_nonneg (by omega))
  obtain ⟨a, rfl⟩ := Int.eq_ofNat_of_zero_le h0
  obtain ⟨y, rfl⟩ := Int.eq_ofNat_of_zero_le h2
  have e2 : ((a : Int) * 2 ^ n) = ((a * 2 ^ n : Nat) : Int) := by rw [Int.natCast_mul, Int.natCast_pow]; rfl
  have e3 : y < 2 ^ n := by
    have : ((y : Nat) : Int) < ((2 ^ n : Nat) : Int) := by rw [show ((2 ^ n : Nat) : Int) = (2 : Int) ^ n by rw [Int.natCast_pow]; rfl]; exact h3
    omega
  have h1' : a * 2 ^ n < 4294967296 := by rw [e2] at h1; omega
  have p32 : (4294967296 : Nat) = 2 ^ 32 := by decide
  have hy : y < 4294967296 := by omega
  have h2' : a * 2 ^ n < 2 ^ 32 := p32 ▸ h1'
  have h3' : y < 2 ^ 32 := p32 ▸ hy
  have e4 : a * 2 ^ n + y = a * 2 ^ n ||| y := by
    have := Nat.shiftLeft_add_eq_or_of_lt e3 a
    rwa [Nat.shiftLeft_eq] at this
  have e5 : (wn ((a : Int) * 2 ^ n) ||| wn (y : Int) : Wd).toNat = a * 2 ^ n ||| y := by
    rw [BitVec.toNat_or, e2]
    unfold wn
    rw [BitVec.ofInt_natCast, BitVec.ofInt_natCast, BitVec.toNat_ofNat, BitVec.toNat_ofNat, Nat.mod_eq_of_lt h2', Nat.mod_eq_of_lt h3']
  have e6 : a * 2 ^ n ||| y < 2 ^ 32 := Nat.or_lt_two_pow h2' h3'
  rw [e5, ← e4, e2]
  rw [← e4, ← p32] at e6
  rw [Go.IntWalk.u32_in _ (by omega)]
  omega
/-! ### A hash's cells -/
def hL (ws : List Wd) (bl : List Int) (n : Int) : List Value := wl ws ++ (dg bl ++ [.int .i64 n])
theorem hL_len {ws : List Wd} {bl : List Int} (n : Int) (hw : ws.length = 8) (hb : bl.length = 64) : (hL ws bl n).length = 73 := by
  unfold hL
  rw [List.length_append, List.length_append, wl_len, dg_length, hw, hb]
  rfl
theorem hL_word {ws : List Wd} {bl : List Int} {n : Int} {i : Nat} (hi : i < ws.length) : (hL ws bl n)[i]? = some (wv (ws.getD i 0)) := by
  unfold hL
  rw [List.getElem?_append_left (by rw [wl_len]; exact hi)]
  have := wl_get (l := ws) (i := (i : Int)) (by omega) (by omega)
  rw [Int.toNat_natCast] at this
  rw [this]
  unfold nw
  rw [Int.toNat_natCast]
theorem hL_byte {ws : List Wd} {bl : List Int} {n : Int} {i : Nat} (k : Nat) (hw : ws.length = 8) (hi : i = 8 + k) (hk : k < bl.length) : (hL ws bl n)[i]? = some (.int .u8 (bl.getD k 0)) := by
  subst hi
  unfold hL
  rw [List.getElem?_append_right (by rw [wl_len]; omega), wl_len, hw, show 8 + k - 8 = k by omega, List.getElem?_append_left (by rw [dg_length]; exact hk)]
  unfold dg
  rw [List.getElem?_map, List.getElem?_eq_getElem hk, List.getD_eq_getElem?_getD, List.getElem?_eq_getElem hk]
  rfl
theorem hL_n {ws : List Wd} {bl : List Int} {n : Int} (hw : ws.length = 8) (hb : bl.length = 64) : (hL ws bl n)[72]? = some (.int .i64 n) := by
  unfold hL
  rw [List.getElem?_append_right (by rw [wl_len]; omega), wl_len, hw, List.getElem?_append_right (by rw [dg_length]; omega), dg_length, hb]
  rfl
theorem hL_setw {ws : List Wd} {bl : List Int} {n : Int} {i : Nat} (hi : i < ws.length) (x : Wd) : (hL ws bl n).set i (wv x) = hL (ws.set i x) bl n := by
  unfold hL
  rw [List.set_append_left _ _ (by rw [wl_len]; exact hi), wl_set]
theorem hL_setn {ws : List Wd} {bl : List Int} {n : Int} (m : Int) (hw : ws.length = 8) (hb : bl.length = 64) : (hL ws bl n).set 72 (.int .i64 m) = hL ws bl m := by
  unfold hL
  rw [List.set_append_right _ _ (by rw [wl_len]; omega), wl_len, hw, List.set_append_right _ _ (by rw [dg_length]; omega), dg_length, hb]
  rfl
theorem hL_one (ws : List Wd) (bl : List Int) (n : Int) : ∀ u ∈ hL ws bl n, u.oneCell' = true := by
  intro u hu
  unfold hL at hu
  rcases List.mem_append.1 hu with h | h
  · exact wl_one _ u h
  · rcases List.mem_append.1 h with h | h
    · exact dg_one _ u h
    · simp only [List.mem_singleton] at h; subst h; rfl
def acc (r s : R8) (i : Nat) : List Wd := (r.add s).l.take i ++ r.l.drop i
theorem acc_len (r s : R8) : ∀ i, i ≤ 8 → (acc r s i).length = 8 := by
  intro i hi
  unfold acc
  rw [List.length_append, List.length_take, List.length_drop, R8.l_len, R8.l_len]
  omega
theorem acc_set (r s : R8) : ∀ i, i < 8 → (acc r s i).set i ((acc r s i).getD i 0 + s.l.getD i 0) = acc r s (i + 1)
  | 0, _ => rfl
  | 1, _ => rfl
  | 2, _ => rfl
  | 3, _ => rfl
  | 4, _ => rfl
  | 5, _ => rfl
  | 6, _ => rfl
  | 7, _ => rfl
theorem nx_ref (s : List Wd) (t : Nat) : s1 (s.getD (t - 2) 0) + s.getD (t - 7) 0 + s0 (s.getD (t - 15) 0) + s.getD (t - 16) 0 = nx s t := by
  unfold nx
  ac_rfl
theorem or1 {x0 x1 : Int} (h0 : 0 ≤ x0 ∧ x0 < 256) (h1 : 0 ≤ x1 ∧ x1 < 256) : bits2 .or .u32 (x0 * 16777216) (x1 * 65536) = x0 * 16777216 + x1 * 65536 := by
  have := or_bytes (A := x0) (x := x1 * 65536) 24 (by omega) (by rw [show (2 : Int) ^ 24 = 16777216 from rfl]; omega) (by omega) (by rw [show (2 : Int) ^ 24 = 16777216 from rfl]; omega) (by omega)
  rwa [show (2 : Int) ^ 24 = 16777216 from rfl] at this
theorem or2 {x0 x1 x2 : Int} (h0 : 0 ≤ x0 ∧ x0 < 256) (h1 : 0 ≤ x1 ∧ x1 < 256) (h2 : 0 ≤ x2 ∧ x2 < 256) : bits2 .or .u32 (x0 * 16777216 + x1 * 65536) (x2 * 256) = x0 * 16777216 + x1 * 65536 + x2 * 256 := by
  have := or_bytes (A := x0 * 256 + x1) (x := x2 * 256) 16 (by omega) (by rw [show (2 : Int) ^ 16 = 65536 from rfl]; omega) (by omega) (by rw [show (2 : Int) ^ 16 = 65536 from rfl]; omega) (by omega)
  rwa [show (2 : Int) ^ 16 = 65536 from rfl, show (x0 * 256 + x1) * 65536 = x0 * 16777216 + x1 * 65536 by omega] at this
theorem or3 {x0 x1 x2 x3 : Int} (h0 : 0 ≤ x0 ∧ x0 < 256) (h1 : 0 ≤ x1 ∧ x1 < 256) (h2 : 0 ≤ x2 ∧ x2 < 256) (h3 : 0 ≤ x3 ∧ x3 < 256) : bits2 .or .u32 (x0 * 16777216 + x1 * 65536 + x2 * 256) x3 = x0 * 16777216 + x1 * 65536 + x2 * 256 + x3 := by
  have := or_bytes (A := x0 * 65536 + x1 * 256 + x2) (x := x3) 8 (by omega) (by rw [show (2 : Int) ^ 8 = 256 from rfl]; omega) (by omega) (by rw [show (2 : Int) ^ 8 = 256 from rfl]; omega) (by omega)
  rwa [show (2 : Int) ^ 8 = 256 from rfl, show (x0 * 65536 + x1 * 256 + x2) * 256 = x0 * 16777216 + x1 * 65536 + x2 * 256 by omega] at this
theorem shl24 {x : Int} (h : 0 ≤ x ∧ x < 256) : IntKind.u32.wrap (x * 2 ^ (min (24 : Int).toNat IntKind.u32.bits)) = x * 16777216 := by
  show IntKind.u32.wrap (x * 16777216) = _
  exact Go.IntWalk.u32_in _ (by omega)
theorem shl16 {x : Int} (h : 0 ≤ x ∧ x < 256) : IntKind.u32.wrap (x * 2 ^ (min (16 : Int).toNat IntKind.u32.bits)) = x * 65536 := by
  show IntKind.u32.wrap (x * 65536) = _
  exact Go.IntWalk.u32_in _ (by omega)
theorem shl8 {x : Int} (h : 0 ≤ x ∧ x < 256) : IntKind.u32.wrap (x * 2 ^ (min (8 : Int).toNat IntKind.u32.bits)) = x * 256 := by
  show IntKind.u32.wrap (x * 256) = _
  exact Go.IntWalk.u32_in _ (by omega)
theorem wi_wd {bl : List Int} {t : Nat} (h0 : 0 ≤ bl.getD (4 * t) 0 ∧ bl.getD (4 * t) 0 < 256) (h1 : 0 ≤ bl.getD (4 * t + 1) 0 ∧ bl.getD (4 * t + 1) 0 < 256) (h2 : 0 ≤ bl.getD (4 * t + 2) 0 ∧ bl.getD (4 * t + 2) 0 < 256) (h3 : 0 ≤ bl.getD (4 * t + 3) 0 ∧ bl.getD (4 * t + 3) 0 < 256) :
    bl.getD (4 * t) 0 * 16777216 + bl.getD (4 * t + 1) 0 * 65536 + bl.getD (4 * t + 2) 0 * 256 + bl.getD (4 * t + 3) 0 = wi (wd bl t) := by
  unfold wd
  rw [wi_wn (by omega) (by omega)]
def KT : List Wd := [0x428a2f98, 0x71374491, 0xb5c0fbcf, 0xe9b5dba5, 0x3956c25b, 0x59f111f1, 0x923f82a4, 0xab1c5ed5, 0xd807aa98, 0x12835b01, 0x243185be, 0x550c7dc3, 0x72be5d74, 0x80deb1fe, 0x9bdc06a7, 0xc19bf174, 0xe49b69c1, 0xefbe4786, 0x0fc19dc6, 0x240ca1cc, 0x2de92c6f, 0x4a7484aa, 0x5cb0a9dc, 0x76f988da, 0x983e5152, 0xa831c66d, 0xb00327c8, 0xbf597fc7, 0xc6e00bf3, 0xd5a79147, 0x06ca6351, 0x14292967, 0x27b70a85, 0x2e1b2138, 0x4d2c6dfc, 0x53380d13, 0x650a7354, 0x766a0abb, 0x81c2c92e, 0x92722c85, 0xa2bfe8a1, 0xa81a664b, 0xc24b8b70, 0xc76c51a3, 0xd192e819, 0xd6990624, 0xf40e3585, 0x106aa070, 0x19a4c116, 0x1e376c08, 0x2748774c, 0x34b0bcb5, 0x391c0cb3, 0x4ed8aa4a, 0x5b9cca4f, 0x682e6ff3, 0x748f82ee, 0x78a5636f, 0x84c87814, 0x8cc70208, 0x90befffa, 0xa4506ceb, 0xbef9a3f7, 0xc67178f2]
def R0 : R8 := ⟨0x6a09e667, 0xbb67ae85, 0x3c6ef372, 0xa54ff53a, 0x510e527f, 0x9b05688c, 0x1f83d9ab, 0x5be0cd19⟩
theorem w_shlk (x : Wd) (k : Nat) (h : k ≤ 31) : IntKind.u32.wrap (wi x * 2 ^ (min (32 - (k : Int)).toNat IntKind.u32.bits)) = wi (x <<< (32 - k)) := by
  rw [show (32 - (k : Int)) = ((32 - k : Nat) : Int) by omega]
  exact w_shl x (32 - k) (by omega)
def KTi : List Int := [1116352408, 1899447441, 3049323471, 3921009573, 961987163, 1508970993, 2453635748, 2870763221, 3624381080, 310598401, 607225278, 1426881987, 1925078388, 2162078206, 2614888103, 3248222580, 3835390401, 4022224774, 264347078, 604807628, 770255983, 1249150122, 1555081692, 1996064986, 2554220882, 2821834349, 2952996808, 3210313671, 3336571891, 3584528711, 113926993, 338241895, 666307205, 773529912, 1294757372, 1396182291, 1695183700, 1986661051, 2177026350, 2456956037, 2730485921, 2820302411, 3259730800, 3345764771, 3516065817, 3600352804, 4094571909, 275423344, 430227734, 506948616, 659060556, 883997877, 958139571, 1322822218, 1537002063, 1747873779, 1955562222, 2024104815, 2227730452, 2361852424, 2428436474, 2756734187, 3204031479, 3329325298]
theorem KTi_eq : ∀ i, i < 64 → KTi.getD i 0 = wi (KT.getD i 0) := by decide +kernel
end Go.Sx

/- More rules: parts of arrays, a word's complement, tables that the program's text lays, calls without a result. -/
set_option linter.unusedVariables false
set_option linter.unusedSimpArgs false
namespace Go.Sx
section
variable {cx : Cx} {o : Oper} {ops : Array Oper} {K : St → Prop} {rest : List Oper} {st : St}
theorem V_sliceArrS {t e : TypeId} {x : Operand} {lo hi : Option Operand} {n sz b off l h : Nat} {v : Value} (ho : o.op = .slice t x lo hi none) (hx : ev st.env x = some (.pointer (some ⟨b, off, none⟩))) (hu : cx.P.underlying t = some (.array n e)) (hz : (cx.P.info? e).map (·.size) = some sz)
    (hl : Bd st.env lo 0 l) (hh : Bd st.env hi n h) (h1 : l ≤ h) (h2 : h ≤ n) (hv : Value.slice (some (if n = l then ⟨b, off, none⟩ else ⟨b, off + l * sz, none⟩)) (h - l) (n - l) = v) : V cx o st v :=
  ⟨nd ho (fun c h => by cases h), fun a w hok => by
    subst hv
    unfold execOp; rw [ho]
    have hb : (Instr.sliceBounds false n n (lo.map a.eval) (hi.map a.eval) none).run cx.P w = .ok (l, h, n) w := by
      unfold Bd at hl hh
      cases hi with
      | none =>
        simp only at hh
        subst hh
        cases lo with
        | none => simp only at hl; subst hl; simp [Instr.sliceBounds]
        | some xl => obtain ⟨k, hk⟩ := hl; simp [Instr.sliceBounds, hok.a.ev hk, run_sliceBound (P := cx.P) w k l h .sliceB (by omega) (by omega)]
      | some xh =>
        obtain ⟨kh, hkh⟩ := hh
        have e1 := run_sliceBound (P := cx.P) w kh h n .sliceAlen (by omega) (by omega)
        cases lo with
        | none => simp only at hl; subst hl; simp [Instr.sliceBounds, hok.a.ev hkh, e1]
        | some xl => obtain ⟨k, hk⟩ := hl; simp [Instr.sliceBounds, hok.a.ev hkh, e1, hok.a.ev hk, run_sliceBound (P := cx.P) w k l h .sliceB (by omega) (by omega)]
    simp only [hok.a.ev hx, Option.map_none, Instr.sliceAt, Instr.sureAddr, Sem.run_bind, run_underlying hu, Result.andThen_ok, Sem.run_pure, hb, run_sizeOf hz, add_at]⟩
theorem V_indexA {t : TypeId} {x y : Operand} {e : TypeId} {d : TypeDesc} {cs : List Value} {k : IntKind} {n : Int} {len sz : Nat} {v : Value} (ho : o.op = .index t x y) (hx : ev st.env x = some (.agg cs.toArray)) (hy : ev st.env y = some (.int k n)) (hu : cx.P.underlying t = some (.array len e)) (hz : (cx.P.info? e).map (·.size) = some sz)
    (hd : cx.P.underlying e = some d) (hs : scalarB d = true) (h0 : 0 ≤ n) (h1 : n < len) (hv : cs[n.toNat * sz]? = some v) : V cx o st v :=
  ⟨nd ho (fun c h => by cases h), fun a w h => by
    unfold execOp; rw [ho]
    simp only [h.a.ev hx, h.a.ev hy, Instr.index, asIntOf, Sem.run_bind, Sem.run_pure, Result.andThen_ok, run_underlying hu]
    rw [if_pos ⟨h0, h1⟩]
    simp only [Sem.run_bind, run_sizeOf hz, Result.andThen_ok, run_part1 hd hs hv, Sem.run_pure]⟩
theorem V_com {t : TypeId} {x : Operand} {k : IntKind} {n r : Int} (ho : o.op = .unOp .xor t x) (hx : ev st.env x = some (.int k n)) (hr : bits2 .xor k (if k.signed then -1 else k.max) n = r) : V cx o st (.int k r) :=
  ⟨nd ho (fun c h => by cases h), fun a w h => by
    subst hr
    unfold execOp; rw [ho]
    simp only [h.a.ev hx, Op.unary]
    simp [Op.intBits, bits2]⟩

/-! ### A table of words -/
def TabK (K : List Wd) (g : Nat) (w : World) : Prop := ∀ t, t < 64 → w.cell? ⟨g, t, none⟩ = some (wv (K.getD t 0))
theorem TabK.lt {K : List Wd} {g : Nat} {w : World} (h : TabK K g w) : g < w.heap.size := World.block_lt_of_cell? w _ (h 0 (by omega))
theorem TabK.fr {K : List Wd} {g : Nat} {mods : List Nat} {w w' : World} (h : TabK K g w) (hf : Fr mods w w') (hm : g ∉ mods) : TabK K g w' := fun t ht => by
  rw [World.cell?_of_block (w := w) (hf.block g h.lt hm)]
  exact h t ht
theorem TabK.later {K : List Wd} {g : Nat} {m : Mem} {fs : List Fact} {w : World} (h : OkW cx m fs w) (hm : g ∉ cx.mods) (hu : TabK K g cx.w0) : TabK K g w := hu.fr h.fr hm

/-! ### A call that hands back nothing, and turns one block of the call's own -/
theorem L_callM {x : Operand} {args : Array Operand} {at_ : Array TypeId} {f : FuncId} {cap : Array Value} {vs : List Value} {b : Nat} {p p' : Obj} {v : Value} (i : Nat) (hg : o.guard = none) (ho : o.op = .call { callee := .value x, args := args, argTypes := at_ })
    (hx : ev st.env x = some (.func (.func f) #[] cap)) (hv : evs st.env args.toList = some vs) (hf : Txt cx.P f) (hi : st.mem[i]? = some (b, p))
    (hc : ∀ w, OkW cx st.mem st.facts w → Calls cx.P f (vs.toArray ++ cap) w fun e w' => e = .returned v ∧ Fr [b] w w' ∧ w'.heap[b]? = some p')
    (h : match o.dst with
       | some d => Nat.blt d cx.nt = true ∧ L cx ops K rest { st with env := (d, v) :: st.env, mem := st.mem.set i (b, p') }
       | none => L cx ops K rest { st with mem := st.mem.set i (b, p') }) : L cx ops K (o :: rest) st :=
  L_call hg ho hx hv hf fun w hw => (hc w hw).mono fun e w' ⟨he, hfr, hb⟩ => ⟨v, _, st.facts, he, hw.set hi hfr hb, h⟩
theorem V_loadWF {t : TypeId} {x : Operand} {d : TypeDesc} {b : Nat} {l : List Value} {T : TypeId} (ho : o.op = .load t x) (hx : ev st.env x = some (.pointer (some ⟨b, 0, none⟩))) (hu : cx.P.underlying t = some d) (hs : scalarB d = false) (hb : ∀ w, OkW cx st.mem st.facts w → w.heap[b]? = some (row T l)) (hz : (cx.P.info? t).map (·.size) = some l.length) : V cx o st (.agg l.toArray) :=
  V_loadN ho hx hu hs hz fun w hw j v hv => cell_of (hb w hw) (by simpa using hv)
theorem OkW.ne {m : Mem} {fs : List Fact} {w : World} (h : OkW cx m fs w) {i j b1 b2 : Nat} {o1 o2 : Obj} (hi : m[i]? = some (b1, o1)) (hj : m[j]? = some (b2, o2)) (hij : i ≠ j) : b1 ≠ b2 := fun e => by
  subst e
  exact hij (key_unique h.dis hi hj)
theorem OkW.ge {m : Mem} {fs : List Fact} {w : World} (h : OkW cx m fs w) (hm : cx.mods = []) {i b : Nat} {p : Obj} (hi : m[i]? = some (b, p)) : cx.w0.heap.size ≤ b := by
  have := h.may b (List.mem_map.2 ⟨_, List.mem_of_getElem? hi, rfl⟩)
  rw [hm] at this
  simpa using this
theorem apB {b1 b2 : Nat} {n c : Nat} {l : List Int} (h : b1 ≠ b2) : ∀ k, (factB (.slice (some ⟨b1, 0, none⟩) n c) l).fp k → k ≠ b2 := by
  rintro k ⟨_, off, n', c', e⟩
  simp only [Value.slice.injEq, Option.some.injEq, Addr.mk.injEq] at e
  rw [← e.1.1]
  exact h
theorem apF {w : World} {v : Value} {l : List Int} {b : Nat} (h : SlB w v l) (hb : w.heap.size ≤ b) : ∀ k, (factB v l).fp k → k ≠ b := fun k hk e => by
  have := factB_lt h k hk
  omega
/-- A literal's bytes are marked. -/
theorem S_mark {K : St → Prop} {t e : TypeId} {x : Operand} (i : Nat) {b off n c d : Nat} {l : List Value} {T : TypeId} (ho : o.op = .convert t t x) (hd : o.dst = some d) (hlt : Nat.blt d cx.nt = true) (hx : ev st.env x = some (.slice (some ⟨b, off, none⟩) n c)) (ht : cx.P.underlying t = some (.slice e)) (he : cx.P.underlying e = some (.int .u8)) (hi : st.mem[i]? = some (b, row T l))
    (h : K { st with env := (d, .slice (some ⟨b, off, none⟩) n c) :: st.env, mem := st.mem.set i (b, .cells l.toArray T (l.length, l.length + 1)) }) : S cx o K st := by
  intro Q next a w hok hk
  have hw := hok.w.at hi
  have hsh : w.shape? b = some (T, l.length) := by
    unfold World.shape?
    rw [hw]
    rfl
  have hr : (convert t t (.slice (some ⟨b, off, none⟩) n c)).run cx.P w = .ok (.slice (some ⟨b, off, none⟩) n c) (w.freeze ⟨b, l.length, none⟩ 1) := by
    simp [convert, run_underlying ht, run_underlying he, markStringish, hsh]
  have hnew : (w.freeze ⟨b, l.length, none⟩ 1).heap[b]? = some (.cells l.toArray T (l.length, l.length + 1)) := by
    unfold World.freeze
    rw [if_neg (by decide)]
    show (Array.modify _ _ _)[b]? = _
    rw [Array.getElem?_modify, if_pos rfl, hw]
    rfl
  have hfr : Fr [b] w (w.freeze ⟨b, l.length, none⟩ 1) := by
    unfold World.freeze
    rw [if_neg (by decide)]
    refine ⟨rfl, rfl, rfl, by simp, fun k hk hm => ?_⟩
    show (Array.modify _ _ _)[k]? = _
    rw [Array.getElem?_modify, if_neg (fun e => hm (by simp; exact e.symm))]
  refine wpIn_value (nd ho (fun c h => by cases h)) (w' := w.freeze ⟨b, l.length, none⟩ 1) (v := .slice (some ⟨b, off, none⟩) n c) ?_ ?_
  · unfold execOp; rw [ho]
    simp only [hok.a.ev hx, Sem.run_bind, hr, Result.andThen_ok, Sem.run_pure]
  · rw [hd]
    exact hk _ _ _ ⟨hok.a.put hlt _, hok.w.set hi hfr hnew⟩ h
theorem SlB.ofM {m : Mem} {fs : List Fact} {w : World} {e : TypeId} {q : OwnR} {n : Nat} {l : List Int} {ks : List Value} (h : OkW cx m fs w) (hm : ∀ p ∈ ownM e q ks, p ∈ m) (hq : OwnC 1 q n ks) (hk : ks = dg l) : SlB w (ownV q n) l := by
  subst hk
  have hl := hq.len
  rw [dg_length, Nat.mul_one] at hl
  cases q with
  | none => exact .inl ⟨List.eq_nil_of_length_eq_zero (by rw [hl]; exact hq.1), none, 0, by rw [hq.1]; rfl⟩
  | some q =>
    obtain ⟨b, c, r⟩ := q
    exact SlB.in (T := e) (r := r) (fz := (0, 0)) h (hm _ (by simp [ownM])) hl c
end
end Go.Sx

/- What bytes come to that are summed, part by part: plain facts. -/
set_option linter.unusedVariables false
set_option linter.unusedSimpArgs false
namespace Go.Sx
def chunk (m : List Int) (k : Nat) : List Int := (m.drop (64 * k)).take 64
def wsn (m : List Int) : Nat → R8
  | 0 => R0
  | k + 1 => blk KT (wsn m k) (chunk m k)
theorem chunk_app {m : List Int} (x : List Int) {k : Nat} (h : 64 * (k + 1) ≤ m.length) : chunk (m ++ x) k = chunk m k := by
  unfold chunk
  rw [List.drop_append, List.take_append, show 64 - (m.drop (64 * k)).length = 0 by rw [List.length_drop]; omega, List.take_zero, List.append_nil]
theorem wsn_app {m : List Int} (x : List Int) : ∀ {k : Nat}, 64 * k ≤ m.length → wsn (m ++ x) k = wsn m k
  | 0, _ => rfl
  | k + 1, h => by
    unfold wsn
    rw [wsn_app x (k := k) (by omega), chunk_app x h]
/-- These words and this block are what bytes come to. -/
structure HS (m : List Int) (ws : R8) (bl : List Int) : Prop where
  w : ws = wsn m (m.length / 64)
  len : bl.length = 64
  byt : Byt bl
  top : bl.take (m.length % 64) = m.drop (64 * (m.length / 64))
theorem hs0 : HS [] R0 (List.replicate 64 0) := ⟨rfl, rfl, fun x hx => by have := List.eq_of_mem_replicate hx; omega, rfl⟩
def blN (m bl x : List Int) : List Int := bl.take (m.length % 64) ++ x.take (64 - m.length % 64) ++ bl.drop (m.length % 64 + min x.length (64 - m.length % 64))
theorem blN_len {m bl : List Int} (x : List Int) (h : bl.length = 64) : (blN m bl x).length = 64 := by
  unfold blN
  rw [List.length_append, List.length_append, List.length_take, List.length_take, List.length_drop]
  omega
theorem blN_byt {m bl x : List Int} (h : Byt bl) (hx : Byt x) : Byt (blN m bl x) := ((h.take _).append (hx.take _)).append (h.drop _)
theorem copy_hL {ws : List Wd} {m bl x : List Int} {n : Int} (hw : ws.length = 8) (hb : bl.length = 64) :
    (hL ws bl n).take (8 + m.length % 64) ++ dg (x.take (64 - m.length % 64)) ++ (hL ws bl n).drop (8 + m.length % 64 + min x.length (64 - m.length % 64)) = hL ws (blN m bl x) n := by
  obtain ⟨r, hr⟩ : ∃ r, m.length % 64 = r := ⟨_, rfl⟩
  have hr' : r < 64 := by omega
  unfold blN hL
  rw [hr, List.take_append, List.drop_append, wl_len, hw, List.take_of_length_le (by rw [wl_len]; omega), List.drop_eq_nil_of_le (by rw [wl_len]; omega), List.nil_append,
    show 8 + r - 8 = r by omega, show 8 + r + min x.length (64 - r) - 8 = r + min x.length (64 - r) by omega, List.take_append, List.drop_append, dg_length, hb,
    show r - 64 = 0 by omega, show r + min x.length (64 - r) - 64 = 0 by omega, List.take_zero, List.append_nil, List.drop_zero, dg_append, dg_append]
  have e1 : (dg bl).take r = dg (bl.take r) := by simp [dg, List.map_take]
  have e2 : (dg bl).drop (r + min x.length (64 - r)) = dg (bl.drop (r + min x.length (64 - r))) := by simp [dg, List.map_drop]
  rw [e1, e2]
  simp only [List.append_assoc]
theorem hs_step {m bl : List Int} {ws : R8} (hs : HS m ws bl) (x : List Int) (hx : Byt x) (hne : 0 < x.length) :
    ((m.length + min x.length (64 - m.length % 64)) % 64 ≠ 0 → HS (m ++ x.take (min x.length (64 - m.length % 64))) ws (blN m bl x)) ∧
    ((m.length + min x.length (64 - m.length % 64)) % 64 = 0 → HS (m ++ x.take (min x.length (64 - m.length % 64))) (blk KT ws (blN m bl x)) (blN m bl x)) := by
  obtain ⟨hw, hlen, hby, htop⟩ := hs
  obtain ⟨r, hr⟩ : ∃ r, m.length % 64 = r := ⟨_, rfl⟩
  obtain ⟨q, hq⟩ : ∃ q, m.length / 64 = q := ⟨_, rfl⟩
  have hm : m.length = 64 * q + r := by omega
  have hr' : r < 64 := by omega
  have hl := blN_len (m := m) x hlen
  have hb := blN_byt (m := m) hby hx
  unfold blN at hl hb ⊢
  rw [hr] at hl hb htop ⊢
  rw [hq] at htop hw
  obtain ⟨c, hc⟩ : ∃ c, min x.length (64 - r) = c := ⟨_, rfl⟩
  have hc1 : c ≤ 64 - r := by omega
  have hc2 : c ≤ x.length := by omega
  have hc3 : x.take (64 - r) = x.take c := by
    by_cases h : x.length ≤ 64 - r
    · rw [List.take_of_length_le h, List.take_of_length_le (by omega)]
    · rw [show c = 64 - r by omega]
  rw [hc, hc3] at hl hb ⊢
  have hml : (m ++ x.take c).length = 64 * q + r + c := by rw [List.length_append, List.length_take, hm]; omega
  have hfront : (bl.take r ++ x.take c ++ bl.drop (r + c)).take (r + c) = (m ++ x.take c).drop (64 * q) := by
    have h1 : (bl.take r ++ x.take c).length = r + c := by rw [List.length_append, List.length_take, List.length_take]; omega
    rw [List.take_append, h1, Nat.sub_self, List.take_zero, List.append_nil, List.take_of_length_le (by omega), htop, List.drop_append, show 64 * q - m.length = 0 by omega, List.drop_zero]
  constructor
  · intro hne0
    have h1 : r + c < 64 := by omega
    refine ⟨?_, hl, hb, ?_⟩
    · rw [hml, show (64 * q + r + c) / 64 = q by omega, wsn_app _ (by omega)]
      exact hw
    · rw [hml, show (64 * q + r + c) / 64 = q by omega, show (64 * q + r + c) % 64 = r + c by omega]
      exact hfront
  · intro he0
    have h1 : r + c = 64 := by omega
    refine ⟨?_, hl, hb, ?_⟩
    · rw [hml, show (64 * q + r + c) / 64 = q + 1 by omega]
      unfold wsn
      rw [wsn_app _ (by omega), hw]
      congr 1
      unfold chunk
      rw [h1] at hfront hl ⊢
      rw [← hfront, List.take_take, Nat.min_self]
      exact (List.take_of_length_le (by rw [hl]; exact Nat.le_refl _)).symm
    · rw [hml, show (64 * q + r + c) / 64 = q + 1 by omega, show (64 * q + r + c) % 64 = 0 by omega, List.take_zero, List.drop_eq_nil_of_le (by rw [hml]; omega)]
/-! ### What stands behind -/
def lb (n : Int) (j : Nat) : Int := n * 8 / 2 ^ (8 * j) % 256
def beL (n : Int) (i : Nat) : List Int := (List.range i).map fun i => lb n (7 - i)
theorem beL_len (n : Int) (i : Nat) : (beL n i).length = i := by simp [beL]
theorem beL_succ (n : Int) (i : Nat) : beL n (i + 1) = beL n i ++ [lb n (7 - i)] := by
  unfold beL
  rw [List.range_succ, List.map_append]
  rfl
theorem lb_byt (n : Int) (j : Nat) : 0 ≤ lb n j ∧ lb n j < 256 := by
  unfold lb
  omega
theorem beL_byt (n : Int) (i : Nat) : Byt (beL n i) := fun x hx => by
  unfold beL at hx
  obtain ⟨j, _, rfl⟩ := List.mem_map.1 hx
  exact lb_byt n _
def padN (n : Nat) : Nat := (120 - (n + 1) % 64) % 64
def padL (n : Nat) : List Int := List.replicate (padN n) 0 ++ beL n 8
def pad (m : List Int) : List Int := m ++ [128] ++ padL m.length
theorem padL_len (n : Nat) : (padL n).length = padN n + 8 := by
  unfold padL
  rw [List.length_append, List.length_replicate, beL_len]
theorem pad_len (m : List Int) : (pad m).length = m.length + 1 + padN m.length + 8 ∧ (pad m).length % 64 = 0 := by
  have h : (pad m).length = m.length + 1 + padN m.length + 8 := by
    unfold pad
    rw [List.length_append, List.length_append, padL_len]
    simp
    omega
  refine ⟨h, ?_⟩
  rw [h]
  unfold padN
  omega
theorem padL_byt (n : Nat) : Byt (padL n) := Byt.append (fun x hx => by have := List.eq_of_mem_replicate hx; omega) (beL_byt _ _)
theorem pad_byt {m : List Int} (h : Byt m) : Byt (pad m) := (h.append (fun x hx => by simp at hx; omega)).append (padL_byt _)
def db (ws : R8) (i : Nat) : Int := wi (ws.l.getD (i / 4) 0 >>> (24 - 8 * (i % 4))) % 256
def dig (ws : R8) : List Int := (List.range 32).map (db ws)
theorem dig_len (ws : R8) : (dig ws).length = 32 := by simp [dig]
theorem dig_byt (ws : R8) : Byt (dig ws) := fun x hx => by
  unfold dig at hx
  obtain ⟨j, _, rfl⟩ := List.mem_map.1 hx
  unfold db
  omega
theorem dig_set {ws : R8} {i : Nat} (h : i < 32) : ((dig ws).take i ++ zd.drop i).set i (db ws i) = (dig ws).take (i + 1) ++ zd.drop (i + 1) := by
  have h1 : ((dig ws).take i).length = i := by rw [List.length_take, dig_len]; omega
  rw [List.set_append_right _ _ (by omega), h1, Nat.sub_self, List.drop_eq_getElem_cons (by rw [zd_length]; exact h), List.set_cons_zero, List.take_add_one, List.append_assoc]
  congr 1
  rw [List.getElem?_eq_getElem (by rw [dig_len]; exact h)]
  simp [dig]
/-- A sum. -/
def shaP (m : List Int) : List Int := dig (wsn (pad m) ((pad m).length / 64))
theorem shaP_len (m : List Int) : (shaP m).length = 32 := dig_len _
theorem shaP_byt (m : List Int) : Byt (shaP m) := dig_byt _
theorem shr_be {n : Int} (i : Nat) (h0 : 0 ≤ n) (h1 : n < 1099511627776) (hi : i < 8) : IntKind.u8.wrap ((n * 8).fdiv (2 ^ (min (56 - 8 * (i : Int)).toNat IntKind.u64.bits))) = lb n (7 - i) := by
  have h2 : min (56 - 8 * (i : Int)).toNat IntKind.u64.bits = 8 * (7 - i) := by
    show min _ 64 = _
    omega
  rw [h2, IntKind.wrap_u8, Int.fdiv_eq_ediv_of_nonneg _ (Int.pow_nonneg (by omega))]
  rfl
theorem shr_be' {n : Int} (j : Nat) (h0 : 0 ≤ n) (h1 : n < 1099511627776) (hi : j < 8) : IntKind.u8.wrap ((n * 8).fdiv (2 ^ (min (8 * (j : Int)).toNat IntKind.u64.bits))) = lb n j := by
  have h2 : min (8 * (j : Int)).toNat IntKind.u64.bits = 8 * j := by
    show min _ 64 = _
    omega
  rw [h2, IntKind.wrap_u8, Int.fdiv_eq_ediv_of_nonneg _ (Int.pow_nonneg (by omega))]
  rfl
theorem shr_db (ws : R8) {i : Nat} (h : i < 32) : (wi (ws.l.getD (i / 4) 0)).fdiv (2 ^ (min (24 - 8 * ((i : Int) % 4)).toNat IntKind.u32.bits)) = wi (ws.l.getD (i / 4) 0 >>> (24 - 8 * (i % 4))) := by
  rw [show (24 - 8 * ((i : Int) % 4)) = ((24 - 8 * (i % 4) : Nat) : Int) by omega]
  exact w_shr _ _ (by omega)
theorem conv_db (ws : R8) (i : Nat) : IntKind.u8.wrap (wi (ws.l.getD (i / 4) 0 >>> (24 - 8 * (i % 4)))) = db ws i := by
  rw [IntKind.wrap_u8]
  rfl
theorem tail_set {n : Int} {p i : Nat} (hp : p < 64) (hi : i < 8) : (List.replicate p (0 : Int) ++ beL n i ++ List.replicate (72 - p - i) 0).set (p + i) (lb n (7 - i)) = List.replicate p 0 ++ beL n (i + 1) ++ List.replicate (72 - p - (i + 1)) 0 := by
  have h1 : (List.replicate p (0 : Int) ++ beL n i).length = p + i := by rw [List.length_append, List.length_replicate, beL_len]
  rw [List.set_append_right _ _ (by omega), h1, Nat.sub_self, show 72 - p - i = (72 - p - (i + 1)) + 1 by omega, List.replicate_succ, List.set_cons_zero, beL_succ]
  simp only [List.append_assoc, List.singleton_append]
theorem dz0 (ws : R8) : dg ((dig ws).take 0 ++ zd.drop 0) = dg zd := by rw [List.take_zero, List.drop_zero, List.nil_append]
theorem wl_getN {l : List Wd} {i : Nat} (h : i < l.length) : (wl l)[i]? = some (wv (l.getD i 0)) := by
  have := wl_get (l := l) (i := (i : Int)) (by omega) (by omega)
  rw [Int.toNat_natCast] at this
  rw [this]
  unfold nw
  rw [Int.toNat_natCast]
theorem abc : shaP [97, 98, 99] = [186, 120, 22, 191, 143, 1, 207, 234, 65, 65, 64, 222, 93, 174, 34, 35, 176, 3, 97, 163, 150, 23, 122, 156, 180, 16, 255, 97, 242, 0, 21, 173] := by decide +kernel
theorem shr_be2 {n : Int} (k : Nat) (h0 : 0 ≤ n) (h1 : n < 1099511627776) (hi : k < 8) : IntKind.u8.wrap ((n * 8).fdiv (2 ^ (min (8 * (7 - (k : Int))).toNat IntKind.u64.bits))) = lb n (7 - k) := by
  rw [show (8 * (7 - (k : Int))) = 8 * ((7 - k : Nat) : Int) by omega]
  exact shr_be' (7 - k) h0 h1 (by omega)
end Go.Sx

/- More rules: a range over a function whose variables are blocks of their own; a description that names a block twice is of no world. -/
set_option linter.unusedVariables false
set_option linter.unusedSimpArgs false
namespace Go.Sx
section
variable {cx : Cx}
theorem J_nd {c : Code} {K : Exit → St → Prop} {st : St} (h : (st.mem.map (·.1)).Nodup → J cx c K st) : J cx c K st := fun a w ho => h ho.w.dis a w ho
theorem nd_app {A B : Mem} (h : ((A ++ B).map (·.1)).Nodup) : (A.map (·.1)).Nodup := by
  rw [List.map_append, List.nodup_append] at h
  exact h.1
theorem J_rangeFuncX {Z X : Type} {K : Exit → St → Prop} {st : St} {g : Operand} {ps : Array Tmp} {assign body : Code} {gf : FuncId} {lb : Array Value}
    (M : Nat → Z → Mem) (Ms : Z → Mem) (priv : Z → X) (js : Code) (z0 : Z) (N : Nat) (vals : Nat → List Value)
    (hro : cx.ro = none) (hds : st.ds = []) (hg : ev st.env g = some (.func (.func gf) #[] lb)) (hf : Txt cx.P gf) (hps : ∀ k, (vals k).length = ps.size) (hpl : ∀ p ∈ ps.toList, Nat.blt p cx.nt = true)
    (h0 : M 0 z0 = st.mem)
    (hiter : ∀ D l r w, RoundsOk cx st.facts M Ms priv N vals js D l r → OkW cx (M 0 z0 ++ tl D l r) st.facts w → Calls cx.P gf (#[.func (.yield l) #[] #[]] ++ lb) w (IterR cx st.facts M Ms N js D l r))
    (hassign : ∀ D l r k z, k < N → J { cx with ro := some l } assign (Exit.thenS (fun s1 => ∃ ex : Mem, s1.ds = [] ∧ s1.facts = st.facts ∧ s1.mem = (M k z ++ tl D l r) ++ ex ∧
        J { cx with ro := some l } body (fun e s => s.facts = st.facts ∧ match e with
          | .normal => ∃ z', priv z' = priv z ∧ Pk (M (k + 1) z' ++ tl D l { r with state := .busy }) s.mem
          | .ret => js = .ret ∧ ∃ z', Pk (Ms z' ++ tl D l { r with state := .busy }) s.mem
          | .exit id => js = .exit id ∧ ∃ z', Pk (Ms z' ++ tl D l { r with state := .busy }) s.mem
          | _ => False) { s1 with mem := (M k z ++ tl D l { r with state := .busy }) ++ ex }) (fun _ _ => False))
      { env := zipE ps.toList (vals k) st.env, mem := M k z ++ tl D l r, facts := st.facts, ds := [] })
    (hdone : ∀ D z, K .normal { st with mem := M N z ++ [(D, .deferred (some []))], ds := [{ target := .collected D, args := #[] }] })
    (hstop : ∀ D z, J cx js K { st with mem := Ms z ++ [(D, .deferred (some []))], ds := [{ target := .collected D, args := #[] }] }) :
    J cx (.rangeFunc g ps assign body) K st := by
  intro a w ho
  refine wpIn_rangeFunc fun fn hfn => ?_
  have hro' : (fen cx.ro).round = none := by rw [hro]; rfl
  have hfenro : fen cx.ro = fen none := by rw [hro]
  rw [hro']
  obtain ⟨r, hr⟩ : ∃ r : Loop, r = { state := .ready, pending := none, fn, tmps := a.tmps, params := ps, assign, body, defers := w.heap.size } := ⟨_, rfl⟩
  have hrs : r.state = .ready := by rw [hr]
  have hrp : r.pending = none := by rw [hr]
  have hw1 : OkW cx (M 0 z0 ++ tl w.heap.size (w.heap.size + 1) r) st.facts ((w.alloc (.deferred (some []))).alloc (.loop r)) := by
    have h1 := (ho.w.alloc (.deferred (some []))).alloc (.loop r)
    rw [World.size_alloc] at h1
    rw [h0]
    simpa [tl] using h1
  refine ⟨w.heap.size + 1, [{ target := .collected w.heap.size, args := #[] }], (w.alloc (.deferred (some []))).alloc (.loop r), { target := .fn (.func gf) lb, args := #[.func (.yield (w.heap.size + 1)) #[] #[]] }, (w.alloc (.deferred (some []))).alloc (.loop r), gf,
    #[.func (.yield (w.heap.size + 1)) #[] #[]] ++ lb, (w.alloc (.deferred (some []))).alloc (.loop r), ?_, ?_, fun _ _ => trivial, ?_, fun h => (by cases h), ?_⟩
  · rw [hr]; exact run_enterLoop_outer _ _ _ _ _
  · simp only [resolve, ho.a.ev hg]
    simp [go_sem, Deferred.ofValue, Act.eval]
  · simp only [invoke]
    exact hf _ _
  · refine callsIn_fen ((hiter _ _ r _ ?_ hw1).mono ?_)
    · -- a round
      intro k z W hk hW
      have hl := hW.at (tl_at _ _ _ _)
      have hy := run_yield (P := cx.P) (args := (vals k).toArray) hl (by rw [hr]; simpa using hps k)
      refine ⟨_, _, _, _, hy, ?_⟩
      have ha0 : OkA { cx with ro := some (w.heap.size + 1) } (zipE ps.toList (vals k) st.env) [] { tmps := (r.params.zip (vals k).toArray).foldl (fun t (p, v) => t.setIfInBounds p v) r.tmps, defers := [] } := by
        have := OkA.zipL (cx := { cx with ro := some (w.heap.size + 1) }) (ds := []) (env := st.env) (ps := ps.toList) (vs := vals k) (tmps := a.tmps) ⟨ho.a.env, ho.a.size, rfl⟩ hpl
        rw [hr]
        have e : (ps.zip (vals k).toArray).foldl (fun t (p, v) => t.setIfInBounds p v) a.tmps = (ps.toList.zip (vals k)).foldl (fun t (p, v) => t.setIfInBounds p v) a.tmps := by
          rw [← Array.foldl_toList, Array.toList_zip]
        show OkA _ _ _ { tmps := (ps.zip (vals k).toArray).foldl (fun t (p, v) => t.setIfInBounds p v) a.tmps, defers := [] }
        rw [e]
        exact this
      refine roundIn_of_wpIn (F := fen none) (n := 0) hfn ?_
      have hJ := hassign w.heap.size (w.heap.size + 1) r k z hk _ W ⟨ha0, hW.cast rfl rfl⟩
      have e1 : (fen none).inRound (w.heap.size + 1) = fen (some (w.heap.size + 1)) := rfl
      rw [hr] at hJ ⊢
      rw [← hr] at hJ ⊢
      rw [e1]
      rw [show r.assign = assign by rw [hr], show r.body = body by rw [hr]]
      refine Go.wpIn_mono hJ ?_
      intro e a1 W1 ⟨s1, hs1, hK1⟩
      cases e with
      | normal =>
        obtain ⟨ex, hd1, hf1, hm1, hb1⟩ := hK1
        have hw1' := hs1.w
        rw [hm1, hf1] at hw1'
        have hlt1 : (M k z).length + 1 < (M k z ++ tl w.heap.size (w.heap.size + 1) r).length := by rw [List.length_append]; simp [tl]
        have hat1 : ((M k z ++ tl w.heap.size (w.heap.size + 1) r) ++ ex)[(M k z).length + 1]? = some (w.heap.size + 1, .loop r) := by
          rw [List.getElem?_append_left hlt1]
          exact tl_at _ _ _ _
        have hl1 := hw1'.at hat1
        refine ⟨_, run_beginRound hl1 hrs, ?_⟩
        have hw2 := hw1'.putObj (o' := .loop { r with state := .busy }) hat1
        rw [List.set_append_left _ _ hlt1, tl_set] at hw2
        refine Go.wpIn_mono (hb1 a1 _ ⟨hs1.a, by rw [hf1]; exact hw2⟩) ?_
        intro e2 a2 W2 ⟨s2, hs2, hf2, hK2⟩
        have fin : ∀ (jump : Option Code) (Mx : Mem), Pk (Mx ++ tl w.heap.size (w.heap.size + 1) { r with state := .busy }) s2.mem →
            ∃ w', (Instr.endRound (w.heap.size + 1) jump).run cx.P W2 = .ok (.bool jump.isNone) w' ∧ OkW cx (Mx ++ tl w.heap.size (w.heap.size + 1) { r with state := if jump.isNone then .ready else .done, pending := jump }) st.facts w' := by
          intro jump Mx hsub
          have h3 : OkW cx (Mx ++ tl w.heap.size (w.heap.size + 1) { r with state := .busy }) st.facts W2 := (hs2.w.pk hsub (fun f hf => by rw [hf2]; exact hf)).cast rfl rfl
          have hl3 := h3.at (tl_at _ _ _ _)
          refine ⟨_, run_endRound jump hl3, ?_⟩
          have := h3.putObj (o' := .loop { r with state := if jump.isNone then .ready else .done, pending := jump }) (tl_at _ _ _ _)
          rwa [tl_set] at this
        cases e2 with
        | normal =>
          obtain ⟨z', hz', hsub⟩ := hK2
          obtain ⟨w', h4, h5⟩ := fin none _ hsub
          refine ⟨_, w', h4, .inl ⟨rfl, z', hz', ?_⟩⟩
          have : ({ r with state := if (none : Option Code).isNone then .ready else .done, pending := none } : Loop) = r := by
            cases r; simp_all
          rwa [this] at h5
        | ret =>
          obtain ⟨rfl, z', hsub⟩ := hK2
          obtain ⟨w', h4, h5⟩ := fin (some .ret) _ hsub
          exact ⟨_, w', h4, .inr ⟨rfl, z', h5⟩⟩
        | exit id =>
          obtain ⟨rfl, z', hsub⟩ := hK2
          obtain ⟨w', h4, h5⟩ := fin (some (.exit id)) _ hsub
          exact ⟨_, w', h4, .inr ⟨rfl, z', h5⟩⟩
        | goto t => exact hK2.elim
        | panic c => exact hK2.elim
        | outgrown => exact hK2.elim
      | exit id => exact hK1.elim
      | goto t => exact hK1.elim
      | ret => exact hK1.elim
      | panic c => exact hK1.elim
      | outgrown => exact hK1.elim
    · -- behind the function
      rintro e W2 ⟨⟨v, rfl⟩, h2⟩
      have ha2 : OkA cx st.env [{ target := .collected w.heap.size, args := #[] }] { a with defers := [{ target := .collected w.heap.size, args := #[] }] ++ a.defers } :=
        ⟨ho.a.env, ho.a.size, by show _ ++ a.defers = _; rw [ho.a.ds, hds]; rfl⟩
      have drop : ∀ (Mx : Mem) (r' : Loop), List.Sublist (Mx ++ [(w.heap.size, .deferred (some []))]) (Mx ++ tl w.heap.size (w.heap.size + 1) r') := fun Mx r' =>
        List.Sublist.append (List.Sublist.refl _) (List.Sublist.cons_cons _ (List.nil_sublist _))
      rcases h2 with ⟨z, hz⟩ | ⟨z, hz⟩
      · have hl2 := hz.at (tl_at _ _ _ _)
        refine ⟨_, _, run_endLoop hl2 (by rw [hrs]; simp), ?_⟩
        have h3 := hz.putObj (o' := .loop { r with state := .exhausted }) (tl_at _ _ _ _)
        rw [tl_set] at h3
        rw [hrp] at h3 ⊢
        exact ⟨{ st with mem := M N z ++ [(w.heap.size, .deferred (some []))], ds := [{ target := .collected w.heap.size, args := #[] }] }, ⟨ha2, h3.sub (drop _ _) (fun f hf => hf)⟩, hdone _ z⟩
      · have hl2 := hz.at (tl_at _ _ _ _)
        refine ⟨_, _, run_endLoop hl2 (by simp), ?_⟩
        have h3 := hz.putObj (o' := .loop { { r with state := .done, pending := some js } with state := .exhausted }) (tl_at _ _ _ _)
        rw [tl_set] at h3
        exact hstop _ z _ _ ⟨ha2, h3.sub (drop _ _) (fun f hf => hf)⟩

end
end Go.Sx

/- One more rule: bytes made of a text. -/
set_option linter.unusedVariables false
set_option linter.unusedSimpArgs false
namespace Go.Sx
section
variable {cx : Cx} {o : Oper} {ops : Array Oper} {K : St → Prop} {rest : List Oper} {st : St}
/-- []byte(s), and how much room it has. -/
theorem L_toBytesC {src dst e : TypeId} {x : Operand} {s : ByteArray} {d : Nat} (hg : o.guard = none) (ho : o.op = .convert src dst x) (hd : o.dst = some d) (hlt : Nat.blt d cx.nt = true) (hx : ev st.env x = some (.string s)) (hs : cx.P.underlying src = some .string) (hdt : cx.P.underlying dst = some (.slice e)) (he : cx.P.underlying e = some (.int .u8))
    (h : ∀ (g c : Nat) (r : List Value) (fz : Nat × Nat), s.size ≤ c → r.length = c - s.size → L cx ops K rest { st with env := (d, .slice (some ⟨g, 0, none⟩) s.size c) :: st.env, mem := st.mem ++ [(g, .cells (dg (bs s) ++ r).toArray e fz)] }) : L cx ops K (o :: rest) st := by
  refine L_cons hg fun Q next a w hok hk => ?_
  have hr := run_bytes_of_string (P := cx.P) w src dst e s hs hdt he
  have hval : (execOp a.eval o).run cx.P w = .ok (.value (.slice (some ⟨w.heap.size, 0, none⟩) s.size (grownCap w s.size 0 e))) (w.drew.alloc (.cells (bytesRow s (grownCap w s.size 0 e)) e ((bytesRow s (grownCap w s.size 0 e)).size, (bytesRow s (grownCap w s.size 0 e)).size + 1))) := by
    unfold execOp; rw [ho]
    simp only [hok.a.ev hx, Sem.run_bind, hr, Result.andThen_ok, Sem.run_pure]
  refine wpIn_value (nd ho (fun c h => by cases h)) hval ?_
  rw [hd]
  have hal : Fr [] w (w.drew.alloc (.cells (bytesRow s (grownCap w s.size 0 e)) e ((bytesRow s (grownCap w s.size 0 e)).size, (bytesRow s (grownCap w s.size 0 e)).size + 1))) := (Fr.drew w).trans (Fr.alloc w.drew _)
  have hrow : bytesRow s (grownCap w s.size 0 e) = (dg (bs s) ++ List.replicate (grownCap w s.size 0 e - s.size) (Value.int .u8 0)).toArray := by
    apply Array.ext'
    simp [bytesRow, dg, bs, Function.comp_def]
  have hnew : (w.drew.alloc (.cells (bytesRow s (grownCap w s.size 0 e)) e ((bytesRow s (grownCap w s.size 0 e)).size, (bytesRow s (grownCap w s.size 0 e)).size + 1))).heap[w.heap.size]? = some (.cells (dg (bs s) ++ List.replicate (grownCap w s.size 0 e - s.size) (Value.int .u8 0)).toArray e ((bytesRow s (grownCap w s.size 0 e)).size, (bytesRow s (grownCap w s.size 0 e)).size + 1)) := by
    rw [show w.heap.size = w.drew.heap.size from rfl, heap_alloc_new]
    congr 1
    rw [hrow]
  exact hk _ _ _ ⟨hok.a.put hlt _, hok.w.add hal hnew (Nat.le_refl _)⟩ (h _ _ _ _ (grownCap_ge _ _ _ _) List.length_replicate)
end
end Go.Sx

/- More rules: a struct that is built of wide parts; bytes made of a text, in the form of one operation. -/
set_option linter.unusedVariables false
set_option linter.unusedSimpArgs false
namespace Go.Sx
theorem foldl_sets (off : Nat) : ∀ (vl : List Value) (k : Nat) (arr : List Value), off + k + vl.length ≤ arr.length →
    (vl.zipIdx k).foldl (fun (a : Array Value) (p : Value × Nat) => a.setIfInBounds (off + p.2) p.1) arr.toArray = (arr.take (off + k) ++ vl ++ arr.drop (off + k + vl.length)).toArray
  | [], k, arr, h => by simp
  | v :: vl, k, arr, h => by
    simp only [List.length_cons] at h
    rw [List.zipIdx_cons, List.foldl_cons]
    have e1 : arr.toArray.setIfInBounds (off + k) v = (arr.set (off + k) v).toArray := by simp
    rw [e1, foldl_sets off vl (k + 1) (arr.set (off + k) v) (by simp; omega)]
    congr 1
    have h1 : off + k < arr.length := by omega
    have e2 : (arr.set (off + k) v).take (off + (k + 1)) = arr.take (off + k) ++ [v] := by
      rw [show off + (k + 1) = (off + k) + 1 by omega, List.take_add_one, List.take_set_of_le (Nat.le_refl _), List.getElem?_set_self h1]
      rfl
    have e3 : (arr.set (off + k) v).drop (off + (k + 1) + vl.length) = arr.drop (off + k + (v :: vl).length) := by
      rw [List.drop_set_of_lt (by omega), List.length_cons]
      congr 1
      omega
    rw [e2, e3]
    simp
theorem fill_set {place : Nat → Option (Nat × Nat)} {i off n : Nat} {v : Value} {arr vl : List Value} {rest : List (Nat × Value)} (hp : place i = some (off, n)) (hv : v.cells = vl.toArray) (hl : vl.length = n) (hf : off + n ≤ arr.length) :
    Instr.fill place arr.toArray ((i, v) :: rest) = Instr.fill place (arr.take off ++ vl ++ arr.drop (off + n)).toArray rest := by
  rw [Instr.fill, hp]
  simp only [hv, List.size_toArray, hl]
  rw [if_neg (by simp; omega)]
  congr 1
  have := foldl_sets off vl 0 arr (by omega)
  rw [Nat.add_zero, hl] at this
  rw [← this]
  simp
section
variable {cx : Cx} {o : Oper} {ops : Array Oper} {K : St → Prop} {st : St}
theorem S_toBytesC {src dst e : TypeId} {x : Operand} {s : ByteArray} {d : Nat} (ho : o.op = .convert src dst x) (hd : o.dst = some d) (hlt : Nat.blt d cx.nt = true) (hx : ev st.env x = some (.string s)) (hs : cx.P.underlying src = some .string) (hdt : cx.P.underlying dst = some (.slice e)) (he : cx.P.underlying e = some (.int .u8))
    (h : ∀ (g c : Nat) (r : List Value) (fz : Nat × Nat), s.size ≤ c → r.length = c - s.size → K { st with env := (d, .slice (some ⟨g, 0, none⟩) s.size c) :: st.env, mem := st.mem ++ [(g, .cells (dg (bs s) ++ r).toArray e fz)] }) : S cx o K st := by
  intro Q next a w hok hk
  have hr := run_bytes_of_string (P := cx.P) w src dst e s hs hdt he
  have hval : (execOp a.eval o).run cx.P w = .ok (.value (.slice (some ⟨w.heap.size, 0, none⟩) s.size (grownCap w s.size 0 e))) (w.drew.alloc (.cells (bytesRow s (grownCap w s.size 0 e)) e ((bytesRow s (grownCap w s.size 0 e)).size, (bytesRow s (grownCap w s.size 0 e)).size + 1))) := by
    unfold execOp; rw [ho]
    simp only [hok.a.ev hx, Sem.run_bind, hr, Result.andThen_ok, Sem.run_pure]
  refine wpIn_value (nd ho (fun c h => by cases h)) hval ?_
  rw [hd]
  have hal : Fr [] w (w.drew.alloc (.cells (bytesRow s (grownCap w s.size 0 e)) e ((bytesRow s (grownCap w s.size 0 e)).size, (bytesRow s (grownCap w s.size 0 e)).size + 1))) := (Fr.drew w).trans (Fr.alloc w.drew _)
  have hrow : bytesRow s (grownCap w s.size 0 e) = (dg (bs s) ++ List.replicate (grownCap w s.size 0 e - s.size) (Value.int .u8 0)).toArray := by
    apply Array.ext'
    simp [bytesRow, dg, bs, Function.comp_def]
  have hnew : (w.drew.alloc (.cells (bytesRow s (grownCap w s.size 0 e)) e ((bytesRow s (grownCap w s.size 0 e)).size, (bytesRow s (grownCap w s.size 0 e)).size + 1))).heap[w.heap.size]? = some (.cells (dg (bs s) ++ List.replicate (grownCap w s.size 0 e - s.size) (Value.int .u8 0)).toArray e ((bytesRow s (grownCap w s.size 0 e)).size, (bytesRow s (grownCap w s.size 0 e)).size + 1)) := by
    rw [show w.heap.size = w.drew.heap.size from rfl, heap_alloc_new]
    congr 1
    rw [hrow]
  exact hk _ _ _ ⟨hok.a.put hlt _, hok.w.add hal hnew (Nat.le_refl _)⟩ (h _ _ _ _ (grownCap_ge _ _ _ _) List.length_replicate)
/-- Bytes that lie somewhere in a block of the call's own. -/
theorem SlB.at_off {m : Mem} {fs : List Fact} {w : World} {i b off n : Nat} {l : List Int} {L : List Value} {T : TypeId} {fz : Nat × Nat} (h : OkW cx m fs w) (hi : m[i]? = some (b, .cells L.toArray T fz)) (hl : l.length = n) (hp : ∀ j, j < (dg l).length → L[off + j]? = (dg l)[j]?) (c : Nat) : SlB w (.slice (some ⟨b, off, none⟩) n c) l := by
  refine .inr ⟨b, off, c, by rw [hl], fun j y hj => cell_of (h.at hi) ?_⟩
  have hlt := (List.getElem?_eq_some_iff.1 hj).1
  rw [List.getElem?_toArray, hp j (by rw [dg_length]; exact hlt)]
  unfold dg
  rw [List.getElem?_map, hj]
  rfl
theorem sz0 {s : ByteArray} : s = ⟨#[]⟩ ↔ s.size = 0 := by
  constructor
  · rintro rfl; rfl
  · intro h
    apply ByteArray.ext
    exact Array.eq_empty_of_size_eq_zero h
theorem neE0 (s : ByteArray) : decide (s ≠ ⟨#[]⟩) = decide (s.size ≠ 0) := decide_eq_decide.2 (not_congr sz0)
theorem eqE0 (s : ByteArray) : decide (s = ⟨#[]⟩) = decide (s.size = 0) := decide_eq_decide.2 sz0
end
end Go.Sx

/- What a code of layer 3 is: plain facts. -/
set_option linter.unusedVariables false
set_option linter.unusedSimpArgs false
namespace Go.Sx
def xb (p x : Int) : Int := bits2 .xor .u8 x p
theorem bits8 (op : BinOp) (x y : Int) : 0 ≤ bits2 op .u8 x y ∧ bits2 op .u8 x y < 256 := by
  have : ∀ n : Int, 0 ≤ IntKind.u8.wrap n ∧ IntKind.u8.wrap n < 256 := fun n => by
    rw [IntKind.wrap_u8]
    omega
  unfold bits2
  cases op <;> exact this _
def kx (p : Int) (k : List Int) : List Int := k.map (xb p)
theorem kx_len (p : Int) (k : List Int) : (kx p k).length = k.length := by simp [kx]
theorem kx_byt (p : Int) (k : List Int) : Byt (kx p k) := fun x hx => by
  unfold kx at hx
  obtain ⟨y, _, rfl⟩ := List.mem_map.1 hx
  exact bits8 _ _ _
def kk (key : List Int) : List Int := if 64 < key.length then shaP key else key
def kp (key : List Int) : List Int := kk key ++ List.replicate (64 - (kk key).length) 0
theorem kk_len (key : List Int) : (kk key).length ≤ 64 := by
  unfold kk
  split
  · rw [shaP_len]; omega
  · omega
theorem kp_len (key : List Int) : (kp key).length = 64 := by
  have := kk_len key
  unfold kp
  rw [List.length_append, List.length_replicate]
  omega
theorem kk_byt {key : List Int} (h : Byt key) : Byt (kk key) := by
  unfold kk
  split
  · exact shaP_byt _
  · exact h
theorem kp_byt {key : List Int} (h : Byt key) : Byt (kp key) := (kk_byt h).append (fun x hx => by have := List.eq_of_mem_replicate hx; omega)
/-- A code. -/
def macP (key b : List Int) : List Int := shaP (kx 92 (kp key) ++ shaP (kx 54 (kp key) ++ b))
theorem macP_len (key b : List Int) : (macP key b).length = 32 := shaP_len _
theorem macP_byt (key b : List Int) : Byt (macP key b) := shaP_byt _
theorem kx_set {p : Int} {k : List Int} {i : Nat} (h : i < k.length) : ((kx p k).take i ++ k.drop i).set i (xb p (k.getD i 0)) = (kx p k).take (i + 1) ++ k.drop (i + 1) := by
  have h1 : ((kx p k).take i).length = i := by rw [List.length_take, kx_len]; omega
  rw [List.set_append_right _ _ (by omega), h1, Nat.sub_self, List.drop_eq_getElem_cons h, List.set_cons_zero, List.take_add_one, List.append_assoc]
  congr 1
  rw [List.getElem?_eq_getElem (by rw [kx_len]; exact h), List.getD_eq_getElem?_getD, List.getElem?_eq_getElem h]
  simp [kx]
theorem kx_next {p : Int} {k : List Int} {i : Nat} (h : i < k.length) : kx p (k.take (i + 1)) = kx p (k.take i) ++ [xb p (k.getD i 0)] := by
  rw [List.take_add_one, List.getD_eq_getElem?_getD, List.getElem?_eq_getElem h]
  unfold kx
  rw [List.map_append]
  rfl
theorem take_setK {k z : List Int} {i : Nat} (h : i < k.length) (hz : i < z.length) : (k.take i ++ z.drop i).set i (k.getD i 0) = k.take (i + 1) ++ z.drop (i + 1) := by
  have h1 : (k.take i).length = i := by rw [List.length_take]; omega
  rw [List.set_append_right _ _ (by omega), h1, Nat.sub_self, List.drop_eq_getElem_cons hz, List.set_cons_zero, List.take_add_one, List.append_assoc, List.getElem?_eq_getElem h, List.getD_eq_getElem?_getD, List.getElem?_eq_getElem h]
  rfl
theorem kp_copy {key : List Int} (h : key.length ≤ 64) : key.take 64 ++ (List.replicate 64 (0 : Int)).drop (0 + min key.length 64) = kp key := by
  unfold kp kk
  rw [if_neg (by omega), List.take_of_length_le h, List.drop_replicate, Nat.zero_add, Nat.min_eq_left h]
theorem kp_self {key : List Int} (h : 64 < key.length) : kp (shaP key) = kp key := by
  unfold kp kk
  rw [if_pos h, if_neg (by rw [shaP_len]; omega)]
theorem kp_zero {key : List Int} {j : Nat} (h : key.length + j ≤ 64) : kp (key ++ List.replicate j 0) = kp key := by
  unfold kp kk
  rw [if_neg (by rw [List.length_append, List.length_replicate]; omega), if_neg (by omega), List.append_assoc, List.length_append, List.length_replicate, List.replicate_append_replicate]
  congr 2
  omega
theorem or8 {x y : Int} (hx : 0 ≤ x ∧ x < 256) (hy : 0 ≤ y ∧ y < 256) : bits2 .or .u8 x y = 0 ↔ x = 0 ∧ y = 0 := by
  obtain ⟨a, rfl⟩ := Int.eq_ofNat_of_zero_le hx.1
  obtain ⟨b, rfl⟩ := Int.eq_ofNat_of_zero_le hy.1
  have ha : a < 256 := by omega
  have hb : b < 256 := by omega
  show IntKind.u8.wrap ((BitVec.ofInt 8 (a : Int) ||| BitVec.ofInt 8 (b : Int)).toNat : Int) = 0 ↔ _
  rw [BitVec.ofInt_natCast, BitVec.ofInt_natCast, BitVec.toNat_or, BitVec.toNat_ofNat, BitVec.toNat_ofNat, Nat.mod_eq_of_lt (show a < 2 ^ 8 from ha), Nat.mod_eq_of_lt (show b < 2 ^ 8 from hb)]
  have h1 : a ||| b < 256 := Nat.or_lt_two_pow (n := 8) ha hb
  rw [Go.IntWalk.u8_in _ (by omega)]
  have h2 : a ||| b = 0 ↔ a = 0 ∧ b = 0 := Nat.or_eq_zero_iff
  omega
theorem xor8 {x y : Int} (hx : 0 ≤ x ∧ x < 256) (hy : 0 ≤ y ∧ y < 256) : bits2 .xor .u8 x y = 0 ↔ x = y := by
  obtain ⟨a, rfl⟩ := Int.eq_ofNat_of_zero_le hx.1
  obtain ⟨b, rfl⟩ := Int.eq_ofNat_of_zero_le hy.1
  have ha : a < 256 := by omega
  have hb : b < 256 := by omega
  show IntKind.u8.wrap ((BitVec.ofInt 8 (a : Int) ^^^ BitVec.ofInt 8 (b : Int)).toNat : Int) = 0 ↔ _
  rw [BitVec.ofInt_natCast, BitVec.ofInt_natCast, BitVec.toNat_xor, BitVec.toNat_ofNat, BitVec.toNat_ofNat, Nat.mod_eq_of_lt (show a < 2 ^ 8 from ha), Nat.mod_eq_of_lt (show b < 2 ^ 8 from hb)]
  have h1 : a ^^^ b < 256 := Nat.xor_lt_two_pow (n := 8) ha hb
  rw [Go.IntWalk.u8_in _ (by omega)]
  have h2 : a ^^^ b = 0 ↔ a = b := by
    constructor
    · intro h
      have h3 := congrArg (fun z => z ^^^ b) h
      simpa [Nat.xor_assoc] using h3
    · rintro rfl
      exact Nat.xor_self _
  omega
def jefe : List Int := [74, 101, 102, 101]
def what : List Int := [119, 104, 97, 116, 32, 100, 111, 32, 121, 97, 32, 119, 97, 110, 116, 32, 102, 111, 114, 32, 110, 111, 116, 104, 105, 110, 103, 63]
theorem jefe_mac : macP jefe what = [91, 220, 193, 70, 191, 96, 117, 78, 106, 4, 36, 38, 8, 149, 117, 199, 90, 0, 63, 8, 157, 39, 57, 131, 157, 236, 88, 185, 100, 236, 56, 67] := by decide +kernel
theorem dgD {l : List Int} {i : Nat} (h : i < l.length) : (dg l)[i]? = some (.int .u8 (l.getD i 0)) := by
  unfold dg
  rw [List.getElem?_map, List.getElem?_eq_getElem h, List.getD_eq_getElem?_getD, List.getElem?_eq_getElem h]
  rfl
theorem sub4 (A B C D : Mem) : List.Sublist (A ++ (B ++ C)) ((A ++ B) ++ (C ++ D)) := by
  rw [← List.append_assoc, ← List.append_assoc]
  exact List.sublist_append_left _ _
theorem take_two {a b : List Int} {i : Nat} (ha : i < a.length) (hb : i < b.length) : a.take (i + 1) = b.take (i + 1) ↔ a.take i = b.take i ∧ a.getD i 0 = b.getD i 0 := by
  rw [List.take_add_one, List.take_add_one, List.getElem?_eq_getElem ha, List.getElem?_eq_getElem hb, List.getD_eq_getElem?_getD, List.getD_eq_getElem?_getD, List.getElem?_eq_getElem ha, List.getElem?_eq_getElem hb]
  constructor
  · intro h
    have h1 : (a.take i).length = (b.take i).length := by rw [List.length_take, List.length_take]; omega
    have := List.append_inj h h1
    exact ⟨this.1, by simpa using this.2⟩
  · rintro ⟨h1, h2⟩
    rw [h1]
    have h2' : a[i] = b[i] := h2
    rw [h2']
theorem kp_done {kk0 key : List Int} (h : kk key = kk0) : kk0.take kk0.length ++ (List.replicate 64 (0 : Int)).drop kk0.length = kp key := by
  unfold kp
  rw [h, List.take_length, List.drop_replicate]
theorem macP_self {key : List Int} (b : List Int) (h : 64 < key.length) : macP (shaP key) b = macP key b := by
  unfold macP
  rw [kp_self h]
theorem macP_zero {key : List Int} (b : List Int) {j : Nat} (h : key.length + j ≤ 64) : macP (key ++ List.replicate j 0) b = macP key b := by
  unfold macP
  rw [kp_zero h]
theorem kp_in {key : List Int} {i : Nat} (h : key.length ≤ 64) (hi : i < key.length) : (kp key).getD i 0 = key.getD i 0 := by
  unfold kp kk
  rw [if_neg (by omega), List.getD_eq_getElem?_getD, List.getElem?_append_left hi, ← List.getD_eq_getElem?_getD]
theorem kp_out {key : List Int} {i : Nat} (h : key.length ≤ 64) (hi : key.length ≤ i) : (kp key).getD i 0 = 0 := by
  unfold kp kk
  rw [if_neg (by omega), List.getD_eq_getElem?_getD, List.getElem?_append_right hi, List.getElem?_replicate]
  split <;> rfl
end Go.Sx
