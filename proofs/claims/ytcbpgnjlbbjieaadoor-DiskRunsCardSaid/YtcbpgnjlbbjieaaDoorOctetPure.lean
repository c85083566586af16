/- What a count's bytes are, and what bytes are read as: in plain numbers. -/
import Derived.Test.YtcbpgnjlbbjieaaDoorSx
set_option linter.unusedVariables false
set_option linter.unusedSimpArgs false
namespace Go.Proofs.YtcbpgnjlbbjieaaDoor
open Go.Sx

/-! ### A count's bytes -/
def grpF : Nat → Int → List Int
  | 0, n => [n]
  | f + 1, n => if n < 128 then [n] else (128 + n % 128) :: grpF f (n / 128)
def grp (n : Int) : List Int := grpF 8 n

theorem grpF_up : ∀ (f : Nat) (n : Int), n < 128 ^ (f + 1) → grpF (f + 1) n = grpF f n
  | 0, n, h => by
    have h' : n < 128 := by simpa using h
    show (if n < 128 then [n] else _) = [n]
    rw [if_pos h']
  | f + 1, n, h => by
    show (if n < 128 then [n] else (128 + n % 128) :: grpF (f + 1) (n / 128)) = (if n < 128 then [n] else (128 + n % 128) :: grpF f (n / 128))
    by_cases h1 : n < 128
    · rw [if_pos h1, if_pos h1]
    · rw [if_neg h1, if_neg h1, grpF_up f (n / 128) (by
        rw [Int.pow_succ] at h
        omega)]
theorem grpF_byt : ∀ (f : Nat) (n : Int), 0 ≤ n → n < 128 ^ (f + 1) → Byt (grpF f n)
  | 0, n, h0, h => by
    have h' : n < 128 := by simpa using h
    intro x hx
    have : x = n := by simpa [grpF] using hx
    omega
  | f + 1, n, h0, h => by
    intro x hx
    by_cases h1 : n < 128
    · simp only [grpF, if_pos h1, List.mem_singleton] at hx
      omega
    · simp only [grpF, if_neg h1, List.mem_cons] at hx
      rcases hx with rfl | hx
      · omega
      · exact grpF_byt f (n / 128) (by omega) (by rw [Int.pow_succ] at h; omega) x hx
theorem grpF_len : ∀ (f : Nat) (n : Int), 1 ≤ (grpF f n).length ∧ (grpF f n).length ≤ f + 1
  | 0, n => by simp [grpF]
  | f + 1, n => by
    have := grpF_len f (n / 128)
    unfold grpF
    split
    · simp
    · simp only [List.length_cons]; omega
theorem grp_byt {n : Int} (h0 : 0 ≤ n) (h1 : n < 9223372036854775808) : Byt (grp n) := grpF_byt 8 n h0 (by omega)
theorem grp_len (n : Int) : 1 ≤ (grp n).length ∧ (grp n).length ≤ 9 := grpF_len 8 n
theorem grp_300 : grp 300 = [172, 2] := by decide
theorem grp_2 : grp 2 = [2] := by decide

/-! ### What bytes begin with -/
/-- The i-th byte is come to, n is what came before it. -/
def rcF : Nat → List Int → Int → Int → Int × Int × Int
  | 0, _, _, _ => (0, 0, 11)
  | f + 1, l, i, n => match l with
    | [] => (0, 0, 10)
    | g :: r =>
      if g ≥ 128 then rcF f r (i + 1) (n + g % 128 * 128 ^ i.toNat)
      else if (0 < i ∧ g = 0) ∨ 2147483647 < n + g % 128 * 128 ^ i.toNat then (0, 0, 11) else (n + g % 128 * 128 ^ i.toNat, i + 1, 0)
def rc (l : List Int) : Int × Int × Int := rcF 5 l 0 0

def rcAt (l : List Int) (i : Nat) (n : Int) : Int × Int × Int := rcF (5 - i) (l.drop i) i n
theorem rcAt_zero (l : List Int) : rcAt l 0 0 = rc l := rfl
theorem rcAt_step {l : List Int} {i : Nat} (n : Int) (h5 : i < 5) (hl : i < l.length) : rcAt l i n = if l.getD i 0 ≥ 128 then rcAt l (i + 1) (n + l.getD i 0 % 128 * 128 ^ i) else if (0 < (i : Int) ∧ l.getD i 0 = 0) ∨ 2147483647 < n + l.getD i 0 % 128 * 128 ^ i then (0, 0, 11) else (n + l.getD i 0 % 128 * 128 ^ i, (i : Int) + 1, 0) := by
  have hd : l.drop i = l.getD i 0 :: l.drop (i + 1) := by
    rw [List.getD_eq_getElem?_getD, List.getElem?_eq_getElem hl]
    exact List.drop_eq_getElem_cons hl
  unfold rcAt
  rw [hd, show 5 - i = (5 - (i + 1)) + 1 by omega]
  show (if l.getD i 0 ≥ 128 then rcF (5 - (i + 1)) (l.drop (i + 1)) ((i : Int) + 1) (n + l.getD i 0 % 128 * 128 ^ (i : Int).toNat) else if (0 < (i : Int) ∧ l.getD i 0 = 0) ∨ 2147483647 < n + l.getD i 0 % 128 * 128 ^ (i : Int).toNat then (0, 0, 11) else (n + l.getD i 0 % 128 * 128 ^ (i : Int).toNat, (i : Int) + 1, 0)) = _
  rw [Int.toNat_natCast]
  rfl
theorem rcAt_end {l : List Int} {i : Nat} (n : Int) (h5 : i < 5) (hl : l.length ≤ i) : rcAt l i n = (0, 0, 10) := by
  unfold rcAt
  rw [List.drop_eq_nil_of_le hl, show 5 - i = (4 - i) + 1 by omega]
  rfl
theorem rcAt_out (l : List Int) (n : Int) : rcAt l 5 n = (0, 0, 11) := rfl

theorem pow128 (i : Nat) : (128 : Int) ^ i = 2 ^ (7 * i) := by rw [Int.pow_mul]; rfl
theorem and127 {g : Int} (h : 0 ≤ g ∧ g < 256) : bits2 .and .u8 g 127 = g % 128 := by
  have key : ∀ x : Fin 256, bits2 .and .u8 (x.val : Int) 127 = (x.val : Int) % 128 := by decide +kernel
  have := key ⟨g.toNat, by omega⟩
  simpa [Int.toNat_of_nonneg h.1] using this
theorem or_add {x y : Int} {k : Nat} (hx : 0 ≤ x) (hy : 0 ≤ y) (hk : x < 2 ^ k) (h : x + y * 2 ^ k < 9223372036854775808) : bits2 .or .i64 x (y * 2 ^ k) = x + y * 2 ^ k := by
  have hp : (0 : Int) < 2 ^ k := Int.pow_pos (by omega)
  have hyk : 0 ≤ y * 2 ^ k := Int.mul_nonneg hy (by omega)
  have e1 : (BitVec.ofInt 64 x).toNat = x.toNat := by rw [BitVec.toNat_ofInt]; simp; omega
  have e2 : (BitVec.ofInt 64 (y * 2 ^ k)).toNat = y.toNat * 2 ^ k := by
    rw [BitVec.toNat_ofInt]
    have : (y * 2 ^ k).toNat = y.toNat * 2 ^ k := by
      rw [Int.toNat_mul hy (by omega)]
      congr 1
    rw [← this]
    congr 1
    exact Int.emod_eq_of_lt hyk (by simp; omega)
  unfold bits2
  show IntKind.i64.wrap ((BitVec.ofInt 64 x ||| BitVec.ofInt 64 (y * 2 ^ k)).toNat : Int) = _
  rw [BitVec.toNat_or, e1, e2]
  have hxk : x.toNat < 2 ^ k := by
    have : ((2 : Int) ^ k) = ((2 ^ k : Nat) : Int) := by simp
    omega
  have h3 := Nat.two_pow_add_eq_or_of_lt hxk y.toNat
  rw [Nat.or_comm, Nat.mul_comm, ← h3]
  have e4 : ((2 ^ k * y.toNat + x.toNat : Nat) : Int) = x + y * 2 ^ k := by
    rw [Int.natCast_add, Int.natCast_mul, Int.toNat_of_nonneg hx, Int.toNat_of_nonneg hy]
    simp
    rw [Int.mul_comm, Int.add_comm]
  rw [e4]
  exact Go.IntWalk.i64_in _ (by omega)

/-- What it is that is read. -/
theorem rcF_ok : ∀ (f : Nat) (l : List Int) (i : Nat) (n : Int), 0 ≤ n → Byt l → (rcF f l i n).2.2 = 0 ∧ 0 ≤ (rcF f l i n).1 ∧ (rcF f l i n).1 ≤ 2147483647 ∧ (∃ k : Nat, k < f ∧ k < l.length ∧ (rcF f l i n).2.1 = i + k + 1) ∨ ((rcF f l i n).2.2 ≠ 0 ∧ (rcF f l i n).1 = 0 ∧ (rcF f l i n).2.1 = 0)
  | 0, l, i, n, h0, hb => .inr ⟨by show (11 : Int) ≠ 0; decide, rfl, rfl⟩
  | f + 1, [], i, n, h0, hb => .inr ⟨by show (10 : Int) ≠ 0; decide, rfl, rfl⟩
  | f + 1, g :: r, i, n, h0, hb => by
    have hg := hb g (List.mem_cons_self ..)
    have hp : (0 : Int) ≤ g % 128 * 128 ^ i := Int.mul_nonneg (by omega) (Int.le_of_lt (Int.pow_pos (by omega)))
    simp only [rcF, Int.toNat_natCast]
    split
    · rcases rcF_ok f r (i + 1) (n + g % 128 * 128 ^ i) (by omega) (fun x hx => hb x (List.mem_cons_of_mem _ hx)) with ⟨h1, h2, h3, k, h4, h5, h6⟩ | h
      · exact .inl ⟨h1, h2, h3, k + 1, by omega, by simp only [List.length_cons]; omega, by rw [show ((i : Int) + 1) = ((i + 1 : Nat) : Int) by omega, h6]; omega⟩
      · exact .inr h
    · split
      · exact .inr ⟨by show (11 : Int) ≠ 0; decide, rfl, rfl⟩
      · exact .inl ⟨rfl, by show 0 ≤ n + _; omega, by show n + _ ≤ _; omega, 0, by omega, by simp, by show (i : Int) + 1 = _; omega⟩
/-- Read: a count and how many bytes it has; or nothing, and why. -/
theorem rc_ok {l : List Int} (hb : Byt l) : (rc l).2.2 = 0 ∧ 0 ≤ (rc l).1 ∧ (rc l).1 ≤ 2147483647 ∧ (∃ k : Nat, 1 ≤ k ∧ k ≤ 5 ∧ k ≤ l.length ∧ (rc l).2.1 = k) ∨ ((rc l).2.2 ≠ 0 ∧ (rc l).1 = 0 ∧ (rc l).2.1 = 0) := by
  rcases rcF_ok 5 l 0 0 (by omega) hb with ⟨h1, h2, h3, k, h4, h5, h6⟩ | h
  · exact .inl ⟨h1, h2, h3, k + 1, by omega, by omega, by omega, by show (rcF 5 l 0 0).2.1 = _; simp at h6; omega⟩
  · exact .inr h

/-- A text, and how many bytes it and its count have. -/
def rb (l : List Int) : List Int × Int × Int :=
  if (rc l).2.2 ≠ 0 then ([], 0, (rc l).2.2) else if 65536 < (rc l).1 then ([], 0, 11) else if (l.length : Int) - (rc l).2.1 < (rc l).1 then ([], 0, 10)
  else ((l.drop (rc l).2.1.toNat).take (rc l).1.toNat, (rc l).2.1 + (rc l).1, 0)
/-- A digest. -/
def rd (l : List Int) : List Int × Int × Int := if l.length < 32 then (zd, 0, 10) else (l.take 32, 32, 0)

theorem p128 {i : Nat} (h : i ≤ 4) : (1 : Int) ≤ 128 ^ i ∧ (128 : Int) ^ i ≤ 268435456 := by
  have : i = 0 ∨ i = 1 ∨ i = 2 ∨ i = 3 ∨ i = 4 := by omega
  rcases this with rfl | rfl | rfl | rfl | rfl <;> decide
theorem mul128 {g P : Int} (hP : 1 ≤ P) : 0 ≤ g % 128 * P ∧ g % 128 * P ≤ 127 * P :=
  ⟨Int.mul_nonneg (by omega) (by omega), Int.mul_le_mul_of_nonneg_right (by omega) (by omega)⟩
theorem byt_getD {l : List Int} (h : Byt l) (i : Nat) : 0 ≤ l.getD i 0 ∧ l.getD i 0 < 256 := by
  rw [List.getD_eq_getElem?_getD]
  cases hq : l[i]? with
  | none => exact ⟨by decide, by decide⟩
  | some x => exact h x (List.mem_of_getElem? hq)
theorem getD_take {l : List Int} {i k : Nat} (h : i < k) : (l.take k).getD i 0 = l.getD i 0 := by
  rw [List.getD_eq_getElem?_getD, List.getElem?_take, if_pos h, ← List.getD_eq_getElem?_getD]
theorem shl_i {g : Int} {i : Nat} (h : i ≤ 4) : IntKind.i64.wrap (g % 128 * 2 ^ (min (7 * (i : Int)).toNat IntKind.i64.bits)) = g % 128 * 128 ^ i := by
  have e : min (7 * (i : Int)).toNat IntKind.i64.bits = 7 * i := by
    show min _ 64 = _
    omega
  rw [e, ← pow128]
  have := p128 h
  have := mul128 (g := g) this.1
  exact Go.IntWalk.i64_in _ (by omega)
theorem or_i {x g : Int} {i : Nat} (h : i ≤ 4) (h0 : 0 ≤ x) (h1 : x < 128 ^ i) : bits2 .or .i64 x (g % 128 * 128 ^ i) = x + g % 128 * 128 ^ i := by
  have h2 := p128 h
  have h3 := mul128 (g := g) h2.1
  have h4 : x + g % 128 * 128 ^ i < 9223372036854775808 := by omega
  rw [pow128] at *
  exact or_add h0 (by omega) h1 h4

/-! ### What is put is read, and the other way round -/
theorem grp4 {n : Int} (h : n ≤ 2147483647) : grp n = grpF 4 n := by
  unfold grp
  rw [grpF_up 7 n (by omega), grpF_up 6 n (by omega), grpF_up 5 n (by omega), grpF_up 4 n (by omega)]
theorem rcF_grpF : ∀ (f : Nat) (m : Int) (rest : List Int) (i : Nat) (n : Int), 0 ≤ m → m < 128 ^ (f + 1) → 0 ≤ n → n + m * 128 ^ i ≤ 2147483647 → (0 < i → m ≠ 0) → rcF (f + 1) (grpF f m ++ rest) i n = (n + m * 128 ^ i, (i : Int) + (grpF f m).length, 0) := by
  have base : ∀ (f : Nat) (m : Int) (rest : List Int) (i : Nat) (n : Int), 0 ≤ m → m < 128 → n + m * 128 ^ i ≤ 2147483647 → (0 < i → m ≠ 0) → rcF (f + 1) (m :: rest) i n = (n + m * 128 ^ i, (i : Int) + 1, 0) := by
    intro f m rest i n h0 h1 h2 h3
    simp only [rcF, Int.toNat_natCast]
    rw [if_neg (by omega), Int.emod_eq_of_lt h0 h1, if_neg (fun h => ?_)]
    rcases h with ⟨h4, h5⟩ | h4
    · exact h3 (by omega) h5
    · omega
  intro f
  induction f with
  | zero =>
    intro m rest i n h0 h1 hn h2 h3
    exact base 0 m rest i n h0 (by simpa using h1) h2 h3
  | succ f ih =>
    intro m rest i n h0 h1 hn h2 h3
    by_cases hm : m < 128
    · simp only [grpF, if_pos hm]
      exact base (f + 1) m rest i n h0 hm h2 h3
    · simp only [grpF, if_neg hm, List.cons_append]
      rw [rcF]
      simp only [Int.toNat_natCast]
      rw [if_pos (by omega), show (128 + m % 128) % 128 = m % 128 by omega]
      have e1 : m * 128 ^ i = m % 128 * 128 ^ i + m / 128 * 128 ^ (i + 1) := by
        rw [Int.pow_succ, Int.mul_comm (128 ^ i) 128, ← Int.mul_assoc, ← Int.add_mul]
        congr 1
        omega
      have hp : (0 : Int) ≤ m % 128 * 128 ^ i := Int.mul_nonneg (by omega) (Int.le_of_lt (Int.pow_pos (by omega)))
      have := ih (m / 128) rest (i + 1) (n + m % 128 * 128 ^ i) (by omega) (by rw [Int.pow_succ] at h1; omega) (by omega) (by omega) (fun _ => by omega)
      rw [show ((i : Int) + 1) = ((i + 1 : Nat) : Int) by omega, this, e1]
      simp only [List.length_cons, Prod.mk.injEq, and_true]
      omega
theorem rc_grp {m : Int} (rest : List Int) (h0 : 0 ≤ m) (h1 : m ≤ 2147483647) : rc (grp m ++ rest) = (m, ((grp m).length : Int), 0) := by
  rw [grp4 h1]
  have := rcF_grpF 4 m rest 0 0 h0 (by omega) (by omega) (by simpa using h1) (by omega)
  simpa [rc] using this
theorem rcF_back : ∀ (f : Nat) (l : List Int) (i : Nat) (n : Int), 0 ≤ n → Byt l → (rcF (f + 1) l i n).2.2 = 0 → ∃ (m : Int) (k : Nat), 0 ≤ m ∧ (0 < i → 1 ≤ m) ∧ (rcF (f + 1) l i n).1 = n + m * 128 ^ i ∧ (rcF (f + 1) l i n).2.1 = i + k + 1 ∧ l.take (k + 1) = grpF f m
  | f, [], i, n, h0, hb, he => absurd he (by show (10 : Int) ≠ 0; decide)
  | f, g :: r, i, n, h0, hb, he => by
    have hg := hb g (List.mem_cons_self ..)
    have hp : (0 : Int) ≤ g % 128 * 128 ^ i := Int.mul_nonneg (by omega) (Int.le_of_lt (Int.pow_pos (by omega)))
    simp only [rcF, Int.toNat_natCast] at he ⊢
    by_cases h1 : g ≥ 128
    · rw [if_pos h1] at he ⊢
      cases f with
      | zero => exact absurd he (by show (11 : Int) ≠ 0; decide)
      | succ f =>
        rw [show ((i : Int) + 1) = ((i + 1 : Nat) : Int) by omega] at he ⊢
        obtain ⟨m, k, h2, h3, h4, h5, h6⟩ := rcF_back f r (i + 1) _ (by omega) (fun x hx => hb x (List.mem_cons_of_mem _ hx)) he
        have h7 := h3 (by omega)
        refine ⟨g % 128 + 128 * m, k + 1, by omega, fun _ => by omega, ?_, by rw [h5]; omega, ?_⟩
        · rw [h4, Int.pow_succ, Int.add_mul, Int.mul_comm (128 ^ i) 128, ← Int.mul_assoc, Int.mul_comm m 128]
          omega
        · rw [List.take_succ_cons, h6]
          simp only [grpF]
          rw [if_neg (by omega), show (g % 128 + 128 * m) / 128 = m by omega, show 128 + (g % 128 + 128 * m) % 128 = g by omega]
    · rw [if_neg h1] at he ⊢
      by_cases h2 : (0 < (i : Int) ∧ g = 0) ∨ 2147483647 < n + g % 128 * 128 ^ i
      · rw [if_pos h2] at he
        exact absurd he (by show (11 : Int) ≠ 0; decide)
      · rw [if_neg h2]
        refine ⟨g, 0, by omega, fun _ => by omega, by rw [Int.emod_eq_of_lt (by omega) (by omega)], by show (i : Int) + 1 = _; omega, ?_⟩
        cases f with
        | zero => rfl
        | succ f => simp only [grpF]; rw [if_pos (by omega)]; rfl
theorem rc_back {l : List Int} (hb : Byt l) (h : (rc l).2.2 = 0) {k : Nat} (hk : (rc l).2.1 = k) : l.take k = grp (rc l).1 := by
  obtain ⟨m, j, h0, _, h1, h2, h3⟩ := rcF_back 4 l 0 0 (by omega) hb h
  have e1 : (rc l).1 = m := by
    have : (rc l).1 = 0 + m * 128 ^ 0 := h1
    simpa using this
  have e2 : (rc l).2.1 = j + 1 := by
    have : (rc l).2.1 = (0 : Nat) + j + 1 := h2
    omega
  have e3 : k = j + 1 := by omega
  have hm : m ≤ 2147483647 := by
    rcases rc_ok hb with ⟨_, _, h5, _⟩ | ⟨h5, _⟩
    · omega
    · exact absurd h h5
  rw [e3, h3, e1, grp4 hm]
theorem rb_put {x : List Int} (rest : List Int) (h : x.length ≤ 65536) : rb (grp x.length ++ x ++ rest) = (x, ((grp x.length).length : Int) + x.length, 0) := by
  have hr := rc_grp (m := x.length) (x ++ rest) (by omega) (by omega)
  unfold rb
  rw [List.append_assoc, hr]
  simp only [List.length_append]
  rw [if_neg (by simp), if_neg (by omega), if_neg (by omega), Int.toNat_natCast, Int.toNat_natCast, List.drop_left, List.take_left]
theorem rd_put {d : List Int} (rest : List Int) (h : d.length = 32) : rd (d ++ rest) = (d, 32, 0) := by
  unfold rd
  have := List.take_left (l₁ := d) (l₂ := rest)
  rw [h] at this
  rw [if_neg (by rw [List.length_append]; omega), this]
theorem rb_ok {l : List Int} (hb : Byt l) : (rb l).2.2 = 0 ∧ (∃ k : Nat, k ≤ l.length ∧ (rb l).2.1 = k ∧ (rb l).1.length ≤ 65536 ∧ Byt (rb l).1 ∧ l.take k = grp (rb l).1.length ++ (rb l).1) ∨ ((rb l).2.2 ≠ 0 ∧ (rb l).1 = [] ∧ (rb l).2.1 = 0) := by
  rcases rc_ok hb with ⟨h1, h2, h3, k, h4, h5, h6, h7⟩ | ⟨h1, h2, h3⟩
  · by_cases h8 : 65536 < (rc l).1
    · have e : rb l = ([], 0, 11) := by unfold rb; rw [if_neg (fun h => h h1), if_pos h8]
      rw [e]; exact .inr ⟨by decide, rfl, rfl⟩
    · by_cases h9 : (l.length : Int) - (rc l).2.1 < (rc l).1
      · have e : rb l = ([], 0, 10) := by unfold rb; rw [if_neg (fun h => h h1), if_neg h8, if_pos h9]
        rw [e]; exact .inr ⟨by decide, rfl, rfl⟩
      · obtain ⟨j, hj⟩ : ∃ j : Nat, (rc l).1 = j := ⟨(rc l).1.toNat, by omega⟩
        have e : rb l = ((l.drop k).take j, (k : Int) + j, 0) := by
          unfold rb; rw [if_neg (fun h => h h1), if_neg h8, if_neg h9, h7, hj, Int.toNat_natCast, Int.toNat_natCast]
        rw [e]
        have hlen : ((l.drop k).take j).length = j := by rw [List.length_take, List.length_drop]; omega
        refine .inl ⟨rfl, k + j, by omega, by simp, by show ((l.drop k).take j).length ≤ _; omega, fun x hx => hb x (List.mem_of_mem_drop (List.mem_of_mem_take hx)), ?_⟩
        show l.take (k + j) = grp ((l.drop k).take j).length ++ (l.drop k).take j
        rw [hlen, ← hj, ← rc_back hb h1 h7, List.take_add]
  · have e : rb l = ([], 0, (rc l).2.2) := by unfold rb; rw [if_pos h1]
    rw [e]; exact .inr ⟨h1, rfl, rfl⟩

theorem rc_len {l : List Int} (hb : Byt l) : ∃ k : Nat, (rc l).2.1 = k ∧ k ≤ l.length := by
  rcases rc_ok hb with ⟨_, _, _, k, _, _, h1, h2⟩ | ⟨_, _, h⟩
  · exact ⟨k, h2, h1⟩
  · exact ⟨0, h, Nat.zero_le _⟩
theorem rb_len {l : List Int} (hb : Byt l) : ∃ k : Nat, (rb l).2.1 = k ∧ k ≤ l.length := by
  rcases rb_ok hb with ⟨_, k, h1, h2, _⟩ | ⟨_, _, h⟩
  · exact ⟨k, h2, h1⟩
  · exact ⟨0, h, Nat.zero_le _⟩
theorem rd_len (l : List Int) : ∃ k : Nat, (rd l).2.1 = k ∧ k ≤ l.length := by
  unfold rd
  split
  · exact ⟨0, rfl, Nat.zero_le _⟩
  · exact ⟨32, rfl, by omega⟩
theorem rd_size (l : List Int) : (rd l).1.length = 32 := by
  unfold rd
  split
  · rfl
  · show (l.take 32).length = 32
    rw [List.length_take]; omega
end Go.Proofs.YtcbpgnjlbbjieaaDoor
