/- Plain facts on paths of 256 bits. -/
import Derived.Test.YtokpnjbfbkphiaaDoorSx
set_option linter.unusedVariables false
namespace Go.Sx
/-- What a bit weighs in its byte. -/
def wt (i : Int) : Int := 2 ^ (7 - i % 8).toNat
/-- The i-th bit. -/
def bitOf (d : List Int) (i : Int) : Int := nth d (i / 8) / wt i % 2
def bitV (d : List Int) (i : Int) : Int := if 0 ≤ i ∧ i < 256 then bitOf d i else 0
def bitE (i : Int) : Int := if 0 ≤ i ∧ i < 256 then 0 else 20
theorem mask_eq (i : Int) (h0 : 0 ≤ i) : IntKind.u8.wrap (1 * 2 ^ (min (7 - i % 8).toNat IntKind.u8.bits)) = wt i := by
  have h : i % 8 = 0 ∨ i % 8 = 1 ∨ i % 8 = 2 ∨ i % 8 = 3 ∨ i % 8 = 4 ∨ i % 8 = 5 ∨ i % 8 = 6 ∨ i % 8 = 7 := by omega
  unfold wt
  rcases h with h | h | h | h | h | h | h | h <;> rw [h] <;> decide
theorem bitV_out (d : List Int) (i : Int) (h : ¬ (0 ≤ i ∧ i < 256)) : bitV d i = 0 := if_neg h
theorem bitE_out (i : Int) (h : ¬ (0 ≤ i ∧ i < 256)) : bitE i = 20 := if_neg h
theorem bitE_in (i : Int) (h0 : 0 ≤ i) (h1 : i < 256) : bitE i = 0 := if_pos ⟨h0, h1⟩
theorem wt_cases (i : Int) : ∃ k : Fin 8, wt i = 2 ^ k.val ∧ (7 - i % 8).toNat = k.val := ⟨⟨(7 - i % 8).toNat, by omega⟩, rfl, rfl⟩
theorem and_bit : ∀ x : Fin 256, ∀ k : Fin 8, bits2 .and .u8 (x.val : Int) (2 ^ k.val) = ((x.val : Int) / 2 ^ k.val % 2) * 2 ^ k.val := by decide +kernel
theorem and_wt {x : Int} (h : 0 ≤ x ∧ x < 256) (i : Int) : bits2 .and .u8 x (wt i) = (x / wt i % 2) * wt i := by
  obtain ⟨k, hk, _⟩ := wt_cases i
  have := and_bit ⟨x.toNat, by omega⟩ k
  rw [hk]
  simpa [Int.toNat_of_nonneg h.1] using this
theorem wt_pos (i : Int) : 0 < wt i := by unfold wt; exact Int.pow_pos (by decide)
theorem bitOf_two (d : List Int) (i : Int) : bitOf d i = 0 ∨ bitOf d i = 1 := by unfold bitOf; omega
theorem bitV_one (d : List Int) (i : Int) (hb : Byt d) (h0 : 0 ≤ i) (h1 : i < 256) (h : bits2 .and .u8 (nth d (i / 8)) (wt i) ≠ 0) : bitV d i = 1 := by
  rw [and_wt (hb.nth _)] at h
  have := bitOf_two d i
  unfold bitV
  rw [if_pos ⟨h0, h1⟩]
  rcases this with h2 | h2
  · unfold bitOf at h2; rw [h2] at h; simp at h
  · exact h2
theorem bitV_no (d : List Int) (i : Int) (hb : Byt d) (h0 : 0 ≤ i) (h1 : i < 256) (h : ¬ bits2 .and .u8 (nth d (i / 8)) (wt i) ≠ 0) : bitV d i = 0 := by
  rw [and_wt (hb.nth _)] at h
  have hp := wt_pos i
  unfold bitV bitOf
  rw [if_pos ⟨h0, h1⟩]
  rcases Int.mul_eq_zero.1 (Classical.not_not.1 h) with h2 | h2 <;> omega
/-! ### Bits of a byte -/
theorem bits2_nn {op : BinOp} {x y : Int} (hx : 0 ≤ x ∧ x < 256) (hy : 0 ≤ y ∧ y < 256) : (BitVec.ofInt 8 x).toNat = x.toNat ∧ (BitVec.ofInt 8 y).toNat = y.toNat := by
  constructor <;> (rw [BitVec.toNat_ofInt]; omega)
theorem xor_nat {x y : Int} (hx : 0 ≤ x ∧ x < 256) (hy : 0 ≤ y ∧ y < 256) : bits2 .xor .u8 x y = ((x.toNat ^^^ y.toNat : Nat) : Int) := by
  obtain ⟨e1, e2⟩ := bits2_nn (op := .xor) hx hy
  have hlt : x.toNat ^^^ y.toNat < 2 ^ 8 := Nat.xor_lt_two_pow (by omega) (by omega)
  show IntKind.wrap .u8 ((BitVec.ofInt 8 x ^^^ BitVec.ofInt 8 y).toNat : Int) = _
  rw [BitVec.toNat_xor, e1, e2, IntKind.wrap_u8]
  omega
theorem bitN (n k : Nat) : ((n : Int) / 2 ^ k % 2) = (n.testBit k).toNat := by
  rw [Nat.testBit_eq_decide_div_mod_eq]
  have h : ((n : Int) / 2 ^ k % 2) = ((n / 2 ^ k % 2 : Nat) : Int) := by simp
  rw [h]
  rcases Nat.mod_two_eq_zero_or_one (n / 2 ^ k) with h | h <;> simp [h]
theorem bitZ {x : Int} (hx : 0 ≤ x) (k : Nat) : (x / 2 ^ k % 2) = (x.toNat.testBit k).toNat := by
  have := bitN x.toNat k
  rwa [Int.toNat_of_nonneg hx] at this
theorem xor_bit {x y : Int} (hx : 0 ≤ x ∧ x < 256) (hy : 0 ≤ y ∧ y < 256) (k : Nat) : bits2 .xor .u8 x y / 2 ^ k % 2 = 0 ↔ x / 2 ^ k % 2 = y / 2 ^ k % 2 := by
  rw [xor_nat hx hy, bitN, bitZ hx.1, bitZ hy.1, Nat.testBit_xor]
  cases x.toNat.testBit k <;> cases y.toNat.testBit k <;> decide
theorem xor_range {x y : Int} (hx : 0 ≤ x ∧ x < 256) (hy : 0 ≤ y ∧ y < 256) : 0 ≤ bits2 .xor .u8 x y ∧ bits2 .xor .u8 x y < 256 := by
  rw [xor_nat hx hy]
  have hlt : x.toNat ^^^ y.toNat < 2 ^ 8 := Nat.xor_lt_two_pow (by omega) (by omega)
  omega
theorem xor_zero {x y : Int} (hx : 0 ≤ x ∧ x < 256) (hy : 0 ≤ y ∧ y < 256) : bits2 .xor .u8 x y = 0 ↔ x = y := by
  rw [xor_nat hx hy]
  constructor
  · intro h
    have : x.toNat = y.toNat := by
      have h2 : x.toNat ^^^ y.toNat = 0 := by omega
      apply Nat.eq_of_testBit_eq
      intro i
      have := congrArg (fun n => n.testBit i) h2
      simp only [Nat.testBit_xor, Nat.zero_testBit] at this
      revert this
      cases x.toNat.testBit i <;> cases y.toNat.testBit i <;> simp
    omega
  · rintro rfl; simp
/-- Two bytes with the same bits are the same. -/
theorem byte_ext {x y : Int} (hx : 0 ≤ x ∧ x < 256) (hy : 0 ≤ y ∧ y < 256) (h : ∀ k : Nat, k < 8 → x / 2 ^ k % 2 = y / 2 ^ k % 2) : x = y := by
  have h0 := h 0 (by omega)
  have h1 := h 1 (by omega)
  have h2 := h 2 (by omega)
  have h3 := h 3 (by omega)
  have h4 := h 4 (by omega)
  have h5 := h 5 (by omega)
  have h6 := h 6 (by omega)
  have h7 := h 7 (by omega)
  simp at h0 h1 h2 h3 h4 h5 h6 h7
  omega

/-! ### A bit that is set -/
def setBit (d : List Int) (i b : Int) : List Int := d.set (i / 8).toNat (nth d (i / 8) + (b - bitOf d i) * wt i)
theorem set_range : ∀ x : Fin 256, ∀ k : Fin 8, ∀ b : Fin 2, 0 ≤ (x.val : Int) + ((b.val : Int) - (x.val : Int) / 2 ^ k.val % 2) * 2 ^ k.val ∧ (x.val : Int) + ((b.val : Int) - (x.val : Int) / 2 ^ k.val % 2) * 2 ^ k.val < 256 := by decide +kernel
theorem set_bits : ∀ x : Fin 256, ∀ k : Fin 8, ∀ b : Fin 2, ∀ j : Fin 8, ((x.val : Int) + ((b.val : Int) - (x.val : Int) / 2 ^ k.val % 2) * 2 ^ k.val) / 2 ^ j.val % 2 = if j = k then (b.val : Int) else (x.val : Int) / 2 ^ j.val % 2 := by decide +kernel
theorem andNot_bit : ∀ x : Fin 256, ∀ k : Fin 8, bits2 .andNot .u8 (x.val : Int) (2 ^ k.val) = (x.val : Int) + (0 - (x.val : Int) / 2 ^ k.val % 2) * 2 ^ k.val := by decide +kernel
theorem or_bit : ∀ x : Fin 256, ∀ k : Fin 8, bits2 .or .u8 (x.val : Int) (2 ^ k.val) = (x.val : Int) + (1 - (x.val : Int) / 2 ^ k.val % 2) * 2 ^ k.val := by decide +kernel
theorem fin256 {x : Int} (hx : 0 ≤ x ∧ x < 256) : ∃ y : Fin 256, (y.val : Int) = x := ⟨⟨x.toNat, by omega⟩, by simp; omega⟩
theorem andNot_wt {d : List Int} (hb : Byt d) (i : Int) : bits2 .andNot .u8 (nth d (i / 8)) (wt i) = nth d (i / 8) + (0 - bitOf d i) * wt i := by
  obtain ⟨k, hk, _⟩ := wt_cases i
  obtain ⟨x, hx⟩ := fin256 (hb.nth (i / 8))
  unfold bitOf
  rw [hk, ← hx]
  exact andNot_bit x k
theorem or_wt {d : List Int} (hb : Byt d) (i : Int) : bits2 .or .u8 (nth d (i / 8)) (wt i) = nth d (i / 8) + (1 - bitOf d i) * wt i := by
  obtain ⟨k, hk, _⟩ := wt_cases i
  obtain ⟨x, hx⟩ := fin256 (hb.nth (i / 8))
  unfold bitOf
  rw [hk, ← hx]
  exact or_bit x k
theorem setB_range {d : List Int} (hb : Byt d) (i b : Int) (h : b = 0 ∨ b = 1) : 0 ≤ nth d (i / 8) + (b - bitOf d i) * wt i ∧ nth d (i / 8) + (b - bitOf d i) * wt i < 256 := by
  obtain ⟨k, hk, _⟩ := wt_cases i
  obtain ⟨x, hx⟩ := fin256 (hb.nth (i / 8))
  unfold bitOf
  rw [hk, ← hx]
  rcases h with rfl | rfl
  · exact set_range x k 0
  · exact set_range x k 1
theorem setBit_length (d : List Int) (i b : Int) : (setBit d i b).length = d.length := by simp [setBit]
theorem setBit_byt {d : List Int} (hb : Byt d) (i b : Int) (h : b = 0 ∨ b = 1) : Byt (setBit d i b) := hb.set _ (setB_range hb i b h)
theorem wt_inj {i j : Int} (hi : 0 ≤ i) (hj : 0 ≤ j) (h8 : i / 8 = j / 8) {k l : Fin 8} (hk : (7 - i % 8).toNat = k.val) (hl : (7 - j % 8).toNat = l.val) : k = l ↔ i = j := by
  constructor
  · intro h
    have : k.val = l.val := by rw [h]
    omega
  · rintro rfl
    exact Fin.ext (by omega)
theorem bitOf_setBit {d : List Int} (hl : d.length = 32) (hb : Byt d) {i j b : Int} (hi : 0 ≤ i) (hi2 : i < 256) (hj : 0 ≤ j) (h : b = 0 ∨ b = 1) : bitOf (setBit d i b) j = if j = i then b else bitOf d j := by
  unfold setBit
  show nth _ (j / 8) / wt j % 2 = _
  rw [nth_set (i := i / 8) (by omega) (by omega) (by omega)]
  by_cases h8 : j / 8 = i / 8
  · rw [if_pos h8]
    obtain ⟨k, hk, hk2⟩ := wt_cases i
    obtain ⟨l, hl1, hl2⟩ := wt_cases j
    obtain ⟨x, hx⟩ := fin256 (hb.nth (i / 8))
    have hii := wt_inj hj hi h8 hl2 hk2
    unfold bitOf
    rw [h8, hk, hl1, ← hx]
    have : ∃ c : Fin 2, (c.val : Int) = b := by rcases h with rfl | rfl; exact ⟨0, rfl⟩; exact ⟨1, rfl⟩
    obtain ⟨c, rfl⟩ := this
    rw [set_bits x k c l]
    by_cases hji : j = i
    · rw [if_pos hji, if_pos (hii.2 hji)]
    · rw [if_neg hji, if_neg (fun e => hji (hii.1 e))]
  · rw [if_neg h8, if_neg (fun e => h8 (by rw [e]))]
    rfl
/-- Two paths with the same bits are the same. -/
theorem bits_ext {a b : List Int} (ha : a.length = 32) (hb : b.length = 32) (hA : Byt a) (hB : Byt b) (h : ∀ i : Int, 0 ≤ i → i < 256 → bitOf a i = bitOf b i) : a = b := by
  apply List.ext_getElem (by omega)
  intro j h1 h2
  have e1 : nth a (j : Int) = a[j] := by simp [nth, h1]
  have e2 : nth b (j : Int) = b[j] := by simp [nth, h2]
  rw [← e1, ← e2]
  refine byte_ext (hA.nth _) (hB.nth _) fun k hk => ?_
  have := h (8 * j + (7 - k)) (by omega) (by omega)
  unfold bitOf wt at this
  rw [show (8 * (j : Int) + (7 - k)) / 8 = j by omega, show (7 - (8 * (j : Int) + (7 - k)) % 8).toNat = k by omega] at this
  exact this

/-! ### What a path begins with -/
def preB (x l : Int) : Int := if l ≤ 0 then 0 else if l < 8 then x / 2 ^ (8 - l).toNat * 2 ^ (8 - l).toNat else x
def mix (d : List Int) (n i : Int) : List Int := (List.range 32).map fun (j : Nat) => if (j : Int) < i then preB (nth d j) (n - 8 * j) else nth d j
def pre (d : List Int) (n : Int) : List Int := mix d n 32
theorem mix_length (d : List Int) (n i : Int) : (mix d n i).length = 32 := by simp [mix]
theorem nth_mix (d : List Int) (n i : Int) {j : Int} (h0 : 0 ≤ j) (h1 : j < 32) : nth (mix d n i) j = if j < i then preB (nth d j) (n - 8 * j) else nth d j := by
  have h : j.toNat < 32 := by omega
  unfold mix
  show List.getD _ _ _ = _
  rw [List.getD_eq_getElem?_getD, List.getElem?_map, List.getElem?_range h]
  simp only [Option.map_some, Option.getD_some, Int.toNat_of_nonneg h0]
theorem nth_ext {a b : List Int} (ha : a.length = 32) (hb : b.length = 32) (h : ∀ j : Int, 0 ≤ j → j < 32 → nth a j = nth b j) : a = b := by
  apply List.ext_getElem (by omega)
  intro j h1 h2
  have := h j (by omega) (by omega)
  simpa [nth, h1, h2] using this
theorem mix_zero {d : List Int} (hl : d.length = 32) (n : Int) : mix d n 0 = d :=
  nth_ext (mix_length _ _ _) hl fun j h0 h1 => by rw [nth_mix _ _ _ h0 h1, if_neg (by omega)]
theorem mix_step (d : List Int) (n : Int) {i : Int} (h0 : 0 ≤ i) (h1 : i < 32) {v : Int} (hv : v = preB (nth d i) (n - 8 * i)) : (mix d n i).set i.toNat v = mix d n (i + 1) :=
  nth_ext (by simp [mix_length]) (mix_length _ _ _) fun j hj0 hj1 => by
    rw [nth_set h0 (by rw [mix_length]; omega) hj0, nth_mix _ _ _ hj0 hj1, nth_mix _ _ _ hj0 hj1]
    by_cases hji : j = i
    · subst hji; rw [if_pos rfl, if_pos (by omega), hv]
    · rw [if_neg hji]
      by_cases h : j < i
      · rw [if_pos h, if_pos (by omega)]
      · rw [if_neg h, if_neg (by omega)]
theorem mix_skip (d : List Int) (n : Int) {i : Int} (h0 : 0 ≤ i) (h1 : i < 32) (h : 8 ≤ n - 8 * i) : mix d n i = mix d n (i + 1) :=
  nth_ext (mix_length _ _ _) (mix_length _ _ _) fun j hj0 hj1 => by
    rw [nth_mix _ _ _ hj0 hj1, nth_mix _ _ _ hj0 hj1]
    by_cases hji : j = i
    · subst hji; rw [if_neg (by omega), if_pos (by omega)]; unfold preB; rw [if_neg (by omega), if_neg (by omega)]
    · by_cases hlt : j < i
      · rw [if_pos hlt, if_pos (by omega)]
      · rw [if_neg hlt, if_neg (by omega)]
theorem andNot_pre : ∀ x : Fin 256, ∀ l : Fin 8, 0 < l.val → bits2 .andNot .u8 (x.val : Int) (255 / 2 ^ l.val) = preB x.val l.val := by decide +kernel
theorem preB_bits : ∀ x : Fin 256, ∀ l : Fin 9, ∀ k : Fin 8, preB x.val l.val / 2 ^ k.val % 2 = if 7 - k.val < l.val then (x.val : Int) / 2 ^ k.val % 2 else 0 := by decide +kernel
theorem preB_range : ∀ x : Fin 256, ∀ l : Fin 9, 0 ≤ preB x.val l.val ∧ preB x.val l.val < 256 := by decide +kernel
theorem preB_clip (x l : Int) : ∃ m : Fin 9, preB x l = preB x m.val ∧ (∀ t : Int, 0 ≤ t → t < 8 → (t < l ↔ t < m.val)) := by
  by_cases h0 : l ≤ 0
  · exact ⟨0, by simp [preB, h0], fun t h1 h2 => by simp; omega⟩
  · by_cases h8 : l < 8
    · refine ⟨⟨l.toNat, by omega⟩, ?_, fun t h1 h2 => by simp; omega⟩
      have : ((l.toNat : Nat) : Int) = l := by omega
      simp [this]
    · refine ⟨8, ?_, fun t h1 h2 => ?_⟩
      · show preB x l = preB x 8
        simp [preB, h0, h8]
      · show t < l ↔ t < 8
        omega
theorem pre_byt {d : List Int} (hb : Byt d) (n : Int) : Byt (pre d n) := by
  intro x hx
  obtain ⟨j, hj, rfl⟩ := List.mem_map.1 hx
  have hj' : j < 32 := by simpa using hj
  simp only [if_pos (show (j : Int) < 32 by omega)]
  obtain ⟨m, hm, _⟩ := preB_clip (nth d j) (n - 8 * j)
  obtain ⟨x, hx⟩ := fin256 (hb.nth (j : Int))
  rw [hm, ← hx]
  exact preB_range x m
theorem bitOf_pre {d : List Int} (hb : Byt d) (n : Int) {i : Int} (h0 : 0 ≤ i) (h1 : i < 256) : bitOf (pre d n) i = if i < n then bitOf d i else 0 := by
  obtain ⟨k, hk, hk2⟩ := wt_cases i
  unfold bitOf pre
  rw [nth_mix _ _ _ (by omega) (by omega), if_pos (by omega), hk]
  obtain ⟨m, hm, hm2⟩ := preB_clip (nth d (i / 8)) (n - 8 * (i / 8))
  obtain ⟨x, hx⟩ := fin256 (hb.nth (i / 8))
  rw [hm, ← hx, preB_bits x m k]
  have := hm2 (i % 8) (by omega) (by omega)
  by_cases hin : i < n
  · rw [if_pos hin, if_pos (by omega)]
  · rw [if_neg hin, if_neg (by omega)]
/-- What a path is whose bits are so. -/
theorem pre_unique {d e : List Int} (hb : Byt d) (he : e.length = 32) (hE : Byt e) (n : Int) (h : ∀ i : Int, 0 ≤ i → i < 256 → bitOf e i = if i < n then bitOf d i else 0) : e = pre d n :=
  bits_ext he (mix_length _ _ _) hE (pre_byt hb n) fun i h0 h1 => by rw [h i h0 h1, bitOf_pre hb n h0 h1]
theorem andNot_shr {x l : Int} (hx : 0 ≤ x ∧ x < 256) (h0 : 0 < l) (h8 : l < 8) : bits2 .andNot .u8 x (Int.fdiv 255 (2 ^ (min l.toNat IntKind.u8.bits))) = preB x l := by
  obtain ⟨y, hy⟩ := fin256 hx
  have := andNot_pre y ⟨l.toNat, by omega⟩ (by simp; omega)
  simp only [show ((l.toNat : Nat) : Int) = l by omega] at this
  rw [← hy, ← this]
  have hm : min l.toNat IntKind.u8.bits = l.toNat := by
    show min l.toNat 8 = l.toNat
    omega
  rw [hm, Int.fdiv_eq_ediv_of_nonneg _ (Int.pow_nonneg (by decide))]

/-! ### What two paths have in common -/
def com (a b : List Int) : Int := ((List.range 256).takeWhile fun (k : Nat) => bitOf a k == bitOf b k).length
theorem takeWhile_spec (p : Nat → Bool) : ∀ (n s : Nat), ∃ c, ((List.range' s n).takeWhile p).length = c ∧ c ≤ n ∧ (∀ k, k < c → p (s + k) = true) ∧ (c < n → p (s + c) = false)
  | 0, s => ⟨0, by simp⟩
  | n + 1, s => by
    rw [List.range'_succ, List.takeWhile_cons]
    by_cases h : p s = true
    · obtain ⟨c, h1, h2, h3, h4⟩ := takeWhile_spec p n (s + 1)
      refine ⟨c + 1, by simp [h, h1], by omega, fun k hk => ?_, fun hc => ?_⟩
      · cases k with
        | zero => exact h
        | succ k => rw [show s + (k + 1) = s + 1 + k by omega]; exact h3 k (by omega)
      · rw [show s + (c + 1) = s + 1 + c by omega]; exact h4 (by omega)
    · exact ⟨0, by simp [h], by omega, fun k hk => by omega, fun _ => by simpa using h⟩
theorem com_spec (a b : List Int) : 0 ≤ com a b ∧ com a b ≤ 256 ∧ (∀ k : Int, 0 ≤ k → k < com a b → bitOf a k = bitOf b k) ∧ (com a b < 256 → bitOf a (com a b) ≠ bitOf b (com a b)) := by
  obtain ⟨c, h1, h2, h3, h4⟩ := takeWhile_spec (fun (k : Nat) => bitOf a k == bitOf b k) 256 0
  have hc : com a b = c := by unfold com; rw [List.range_eq_range', h1]
  rw [hc]
  refine ⟨by omega, by omega, fun k hk0 hk => ?_, fun hlt => ?_⟩
  · have := h3 k.toNat (by omega)
    simp only [Nat.zero_add, beq_iff_eq] at this
    rwa [Int.toNat_of_nonneg hk0] at this
  · have := h4 (by omega)
    simpa using this
theorem com_unique {a b : List Int} {c : Int} (h0 : 0 ≤ c) (h1 : c ≤ 256) (h2 : ∀ k : Int, 0 ≤ k → k < c → bitOf a k = bitOf b k) (h3 : c < 256 → bitOf a c ≠ bitOf b c) : c = com a b := by
  obtain ⟨g0, g1, g2, g3⟩ := com_spec a b
  rcases Int.lt_trichotomy c (com a b) with h | h | h
  · exact absurd (g2 c h0 h) (h3 (by omega))
  · exact h
  · exact absurd (h2 _ g0 h) (g3 (by omega))
theorem com_eq {a b : List Int} (ha : a.length = 32) (hb : b.length = 32) (hA : Byt a) (hB : Byt b) : com a b = 256 ↔ a = b := by
  obtain ⟨g0, g1, g2, g3⟩ := com_spec a b
  constructor
  · intro h
    exact bits_ext ha hb hA hB fun i h0 h1 => g2 i h0 (by omega)
  · rintro rfl
    rcases Int.lt_or_eq_of_le g1 with h | h
    · exact absurd rfl (g3 h)
    · exact h
theorem com_comm (a b : List Int) : com a b = com b a := by
  obtain ⟨g0, g1, g2, g3⟩ := com_spec a b
  exact com_unique g0 g1 (fun k h0 h1 => (g2 k h0 h1).symm) (fun h => (g3 h).symm)
def lessB (a b : List Int) : Bool := decide (com a b < 256 ∧ bitOf a (com a b) = 0)
def lz8 (x : Int) : Int := if x ≥ 128 then 0 else if x ≥ 64 then 1 else if x ≥ 32 then 2 else if x ≥ 16 then 3 else if x ≥ 8 then 4 else if x ≥ 4 then 5 else if x ≥ 2 then 6 else if x ≥ 1 then 7 else 8
theorem lz_spec : ∀ x : Fin 256, x.val ≠ 0 → 0 ≤ lz8 x.val ∧ lz8 x.val ≤ 7 ∧ ((x.val : Int) / 2 ^ (7 - lz8 x.val).toNat % 2 ≠ 0) ∧ ∀ j : Fin 8, (j.val : Int) < lz8 x.val → (x.val : Int) / 2 ^ (7 - j.val) % 2 = 0 := by decide +kernel
/-- The first byte that parts them. -/
theorem com_byte {a b : List Int} (hA : Byt a) (hB : Byt b) {i : Int} (h0 : 0 ≤ i) (h1 : i < 32) (heq : ∀ j : Int, 0 ≤ j → j < i → nth a j = nth b j) (hne : bits2 .xor .u8 (nth a i) (nth b i) ≠ 0) :
    8 * i + lz8 (bits2 .xor .u8 (nth a i) (nth b i)) = com a b := by
  obtain ⟨z, hz⟩ := fin256 (xor_range (hA.nth i) (hB.nth i))
  have hz0 : z.val ≠ 0 := by rintro h; exact hne (by rw [← hz, h]; rfl)
  obtain ⟨g0, g1, g2, g3⟩ := lz_spec z hz0
  rw [← hz]
  refine com_unique (by omega) (by omega) (fun k hk0 hk1 => ?_) (fun _ => ?_)
  · by_cases hlt : k / 8 < i
    · unfold bitOf; rw [heq _ (by omega) hlt]
    · have hki : k / 8 = i := by omega
      have := g3 ⟨(k % 8).toNat, by omega⟩ (by simp; omega)
      rw [hz] at this
      unfold bitOf wt
      rw [hki]
      have e : (7 - k % 8).toNat = 7 - (k % 8).toNat := by omega
      rw [e]
      exact (xor_bit (hA.nth i) (hB.nth i) _).1 this
  · intro h
    apply g2
    unfold bitOf wt at h
    rw [show (8 * i + lz8 (z.val : Int)) / 8 = i by omega, show (7 - (8 * i + lz8 (z.val : Int)) % 8).toNat = (7 - lz8 (z.val : Int)).toNat by omega] at h
    have := (xor_bit (hA.nth i) (hB.nth i) (7 - lz8 (z.val : Int)).toNat).2 h
    rw [← hz] at this
    exact this
theorem com_all {a b : List Int} (h : ∀ j : Int, 0 ≤ j → j < 32 → nth a j = nth b j) : 256 = com a b :=
  com_unique (by omega) (by omega) (fun k h0 h1 => by unfold bitOf; rw [h _ (by omega) (by omega)]) (fun h => by omega)
/-! ### Less -/
theorem ba_get {l : List Int} (hl : Byt l) {i : Nat} (h : i < l.length) : ((ba l)[i]!).toNat = (l[i]).toNat := by
  have hs : i < (ba l).size := by rw [ba_size]; exact h
  rw [getElem!_pos (ba l) i hs]
  have : (ba l)[i] = (l[i]).toNat.toUInt8 := by
    show (ba l).data[i]'_ = _
    simp [ba]
  rw [this]
  have := hl _ (List.getElem_mem h)
  simp
  omega
def cmpB (a b : List Int) : Int := Extern.BytealgCompare.cmp (ba a) (ba b)
theorem nth_nat {d : List Int} {i : Nat} (h : i < d.length) : nth d (i : Int) = d[i] := by simp [nth, h]
theorem cmp_less {a b : List Int} (ha : a.length = 32) (hb : b.length = 32) (hA : Byt a) (hB : Byt b) : cmpB a b < 0 ↔ lessB a b = true := by
  have hget : ∀ i : Nat, i < 32 → ((ba a)[i]! != (ba b)[i]!) = decide (nth a i ≠ nth b i) := by
    intro i hi
    have e1 := ba_get hA (i := i) (by omega)
    have e2 := ba_get hB (i := i) (by omega)
    rw [nth_nat (by omega), nth_nat (by omega)]
    have h1 := hA _ (List.getElem_mem (show i < a.length by omega))
    have h2 := hB _ (List.getElem_mem (show i < b.length by omega))
    rw [Bool.eq_iff_iff]
    simp only [bne_iff_ne, ne_eq, decide_eq_true_eq, ← UInt8.toNat_inj, e1, e2]
    omega
  unfold cmpB Extern.BytealgCompare.cmp
  simp only [ba_size, ha, hb, Nat.min_self]
  cases hf : (List.range 32).find? fun i => (ba a)[i]! != (ba b)[i]! with
  | none =>
    have hall := List.find?_eq_none.1 hf
    have hab : a = b := nth_ext ha hb fun j h0 h1 => by
      have := hall j.toNat (by simp; omega)
      rw [hget _ (by omega), Int.toNat_of_nonneg h0] at this
      simpa using this
    subst hab
    have : com a a = 256 := (com_eq ha ha hA hA).2 rfl
    simp [lessB, this]
  | some i =>
    obtain ⟨hp, as, bs, hr, hall⟩ := List.find?_eq_some_iff_append.1 hf
    have hi : i ∈ List.range 32 := by rw [hr]; simp
    have hi32 : i < 32 := by simpa using hi
    have hpre : ∀ j : Nat, j < i → nth a j = nth b j := by
      intro j hj
      have hsub : j ∈ as := by
        have hl : as.length = i := by
          have h1 : (List.range 32)[as.length]? = some i := by rw [hr]; simp
          rw [List.getElem?_range (by have := congrArg List.length hr; simp at this; omega)] at h1
          simpa using h1
        have h2 : (List.range 32)[j]? = as[j]? := by rw [hr, List.getElem?_append_left (by omega)]
        rw [List.getElem?_range (by omega)] at h2
        exact List.mem_of_getElem? h2.symm
      have := hall j hsub
      rw [hget _ (by omega)] at this
      simpa using this
    rw [hget _ hi32] at hp
    have hne : nth a i ≠ nth b i := by simpa using hp
    have hx : bits2 .xor .u8 (nth a i) (nth b i) ≠ 0 := fun h => hne ((xor_zero (hA.nth _) (hB.nth _)).1 h)
    have hc := com_byte hA hB (i := (i : Int)) (by omega) (by omega) (fun j h0 h1 => by have := hpre j.toNat (by omega); rwa [Int.toNat_of_nonneg h0] at this) hx
    obtain ⟨z, hz⟩ := fin256 (xor_range (hA.nth i) (hB.nth i))
    obtain ⟨g0, g1, g2, g3⟩ := lz_spec z (fun h => hx (by rw [← hz, h]; rfl))
    have hcs := com_spec a b
    have hlt : com a b < 256 := by rw [← hc, ← hz]; omega
    have hk8 : com a b / 8 = i := by rw [← hc, ← hz]; omega
    have e1 := ba_get hA (i := i) (by omega)
    have e2 := ba_get hB (i := i) (by omega)
    have n1 := nth_nat (d := a) (i := i) (by omega)
    have n2 := nth_nat (d := b) (i := i) (by omega)
    have r1 := hA.nth i
    have r2 := hB.nth i
    have hltb : ((ba a)[i]! < (ba b)[i]!) ↔ nth a i < nth b i := by
      rw [UInt8.lt_iff_toNat_lt, e1, e2, n1, n2]
      rw [n1] at r1
      rw [n2] at r2
      omega
    -- the bits ahead of the one that parts them are the same, that one decides
    have key : nth a i < nth b i ↔ bitOf a (com a b) = 0 := by
      obtain ⟨k, hk, hk2⟩ := wt_cases (com a b)
      have hd := hcs.2.2.2 hlt
      have hsame : ∀ m : Nat, m < 8 → k.val < m → nth a i / 2 ^ m % 2 = nth b i / 2 ^ m % 2 := by
        intro m hm hkm
        have := hcs.2.2.1 (8 * i + (7 - m)) (by omega) (by omega)
        unfold bitOf wt at this
        rw [show (8 * (i : Int) + (7 - m)) / 8 = i by omega, show (7 - (8 * (i : Int) + (7 - m)) % 8).toNat = m by omega] at this
        exact this
      unfold bitOf at hd ⊢
      rw [hk8, hk] at hd ⊢
      obtain ⟨x, hx1⟩ := fin256 r1
      obtain ⟨y, hy1⟩ := fin256 r2
      rw [← hx1, ← hy1] at hsame hd ⊢
      have hq : (x.val : Int) / 2 ^ (k.val + 1) = y.val / 2 ^ (k.val + 1) := by
        have hb1 : 0 ≤ (x.val : Int) / 2 ^ (k.val + 1) ∧ (x.val : Int) / 2 ^ (k.val + 1) < 256 := ⟨Int.ediv_nonneg (by omega) (Int.pow_nonneg (by decide)), Int.lt_of_le_of_lt (Int.ediv_le_self _ (by omega)) (by omega)⟩
        have hb2 : 0 ≤ (y.val : Int) / 2 ^ (k.val + 1) ∧ (y.val : Int) / 2 ^ (k.val + 1) < 256 := ⟨Int.ediv_nonneg (by omega) (Int.pow_nonneg (by decide)), Int.lt_of_le_of_lt (Int.ediv_le_self _ (by omega)) (by omega)⟩
        refine byte_ext hb1 hb2 fun m hm => ?_
        rw [Int.ediv_ediv_of_nonneg (Int.pow_nonneg (by decide)), Int.ediv_ediv_of_nonneg (Int.pow_nonneg (by decide)), ← Int.pow_add]
        by_cases hm8 : k.val + 1 + m < 8
        · exact hsame _ hm8 (by omega)
        · have h256 : (256 : Int) ≤ 2 ^ (k.val + 1 + m) := by
            have : (2 : Int) ^ 8 ≤ 2 ^ (k.val + 1 + m) := by
              obtain ⟨t, ht⟩ : ∃ t, k.val + 1 + m = 8 + t := ⟨k.val + 1 + m - 8, by omega⟩
              rw [ht, Int.pow_add]
              have : (0 : Int) < 2 ^ t := Int.pow_pos (by decide)
              have h8 : (2 : Int) ^ 8 = 256 := by decide
              rw [h8]
              omega
            exact this
          rw [Int.ediv_eq_zero_of_lt (by omega) (by omega), Int.ediv_eq_zero_of_lt (by omega) (by omega)]
      have hp : (2 : Int) ^ (k.val + 1) = 2 * 2 ^ k.val := by rw [Int.pow_succ, Int.mul_comm]
      rw [hp, Int.mul_comm, ← Int.ediv_ediv_of_nonneg (Int.pow_nonneg (by decide)), ← Int.ediv_ediv_of_nonneg (Int.pow_nonneg (by decide))] at hq
      have hpos : (0 : Int) < 2 ^ k.val := Int.pow_pos (by decide)
      constructor
      · intro h
        have hle : (x.val : Int) / 2 ^ k.val ≤ y.val / 2 ^ k.val := Int.ediv_le_ediv hpos (by omega)
        omega
      · intro h
        apply Int.lt_of_not_ge
        intro hge
        have hle : (y.val : Int) / 2 ^ k.val ≤ x.val / 2 ^ k.val := Int.ediv_le_ediv hpos (by omega)
        omega
    simp only [lessB, decide_eq_true_eq, hlt, true_and]
    rw [← key]
    by_cases h : (ba a)[i]! < (ba b)[i]!
    · simp [h, hltb.1 h]
    · simp [h]
      exact Int.not_lt.1 (fun h2 => h (hltb.2 h2))
def withV (d : List Int) (i b : Int) : List Int := if 0 ≤ i ∧ i < 256 then (if b = 0 ∨ b = 1 then setBit d i b else zd) else zd
def withE (i b : Int) : Int := if 0 ≤ i ∧ i < 256 then (if b = 0 ∨ b = 1 then 0 else 1) else 20
theorem withV_out (d : List Int) (i b : Int) (h : ¬ (0 ≤ i ∧ i < 256)) : withV d i b = zd := if_neg h
theorem withE_out (i b : Int) (h : ¬ (0 ≤ i ∧ i < 256)) : withE i b = 20 := if_neg h
theorem withV_in (d : List Int) (i b : Int) (h0 : 0 ≤ i) (h1 : i < 256) (h : b = 0 ∨ b = 1) : withV d i b = setBit d i b := by unfold withV; rw [if_pos ⟨h0, h1⟩, if_pos h]
theorem withE_in (i b : Int) (h0 : 0 ≤ i) (h1 : i < 256) (h : b = 0 ∨ b = 1) : withE i b = 0 := by unfold withE; rw [if_pos ⟨h0, h1⟩, if_pos h]
theorem withV_arg (d : List Int) (i b : Int) (h0 : 0 ≤ i) (h1 : i < 256) (h : ¬ (b = 0 ∨ b = 1)) : withV d i b = zd := by unfold withV; rw [if_pos ⟨h0, h1⟩, if_neg h]
theorem withE_arg (i b : Int) (h0 : 0 ≤ i) (h1 : i < 256) (h : ¬ (b = 0 ∨ b = 1)) : withE i b = 1 := by unfold withE; rw [if_pos ⟨h0, h1⟩, if_neg h]
theorem withV_length {d : List Int} (hl : d.length = 32) (i b : Int) : (withV d i b).length = 32 := by
  unfold withV; split <;> (try split) <;> first | exact zd_length | (rw [setBit_length]; exact hl)
theorem withV_byt {d : List Int} (hb : Byt d) (i b : Int) : Byt (withV d i b) := by
  unfold withV
  split
  · split
    · rename_i h; exact setBit_byt hb i b h
    · exact zd_byt
  · exact zd_byt
def preV (d : List Int) (n : Int) : List Int := if 0 ≤ n ∧ n ≤ 256 then pre d n else zd
def preE (n : Int) : Int := if 0 ≤ n ∧ n ≤ 256 then 0 else 20
theorem preV_out (d : List Int) (n : Int) (h : ¬ (0 ≤ n ∧ n ≤ 256)) : preV d n = zd := if_neg h
theorem preE_out (n : Int) (h : ¬ (0 ≤ n ∧ n ≤ 256)) : preE n = 20 := if_neg h
theorem preV_in (d : List Int) (n : Int) (h0 : 0 ≤ n) (h1 : n ≤ 256) : preV d n = mix d n 32 := if_pos ⟨h0, h1⟩
theorem preE_in (n : Int) (h0 : 0 ≤ n) (h1 : n ≤ 256) : preE n = 0 := if_pos ⟨h0, h1⟩
theorem preV_length (d : List Int) (n : Int) : (preV d n).length = 32 := by unfold preV; split; exact mix_length _ _ _; rfl
theorem preV_byt {d : List Int} (hb : Byt d) (n : Int) : Byt (preV d n) := by unfold preV; split; exact pre_byt hb n; exact zd_byt
theorem byt128 : Byt (128 :: List.replicate 31 0) := by intro x hx; simp at hx; omega
theorem byt129 : Byt (129 :: List.replicate 31 0) := by intro x hx; simp at hx; omega
theorem lz8_range (x : Int) (h0 : 0 ≤ x) (h1 : x < 256) : 0 ≤ lz8 x ∧ lz8 x ≤ 8 := by
  unfold lz8
  repeat' split
  all_goals omega
theorem less_self {a b : List Int} (h : a = b) : lessB a b = false := by
  subst h
  unfold lessB
  rw [decide_eq_false_iff_not]
  rintro ⟨h1, h2⟩
  exact (com_spec a a).2.2.2 h1 rfl
theorem len8_get {s : ByteArray} (x : Int) (h0 : 0 ≤ x) (h1 : x < 256) (h : ∀ y : Fin 256, s[y.val]?.map (fun b => (b.toNat : Int)) = some (8 - lz8 y.val)) : s[x.toNat]?.map (fun b => (b.toNat : Int)) = some (8 - lz8 x) := by
  obtain ⟨y, hy⟩ := fin256 ⟨h0, h1⟩
  have := h y
  rw [← hy]
  simpa using this
end Go.Sx
namespace Go.Sx
theorem wt_half (k : Int) (h : 0 ≤ k) : (128 : Int) / 2 ^ (k + 1).toNat = 128 / 2 ^ k.toNat / 2 := by
  rw [show (k + 1).toNat = k.toNat + 1 by omega, Int.pow_succ, Int.ediv_ediv_of_nonneg (Int.pow_nonneg (by decide))]
theorem wt_bd (k : Int) (h : 0 ≤ k) : 0 ≤ (128 : Int) / 2 ^ k.toNat ∧ (128 : Int) / 2 ^ k.toNat ≤ 9223372036854775807 :=
  ⟨Int.ediv_nonneg (by decide) (Int.pow_nonneg (by decide)), Int.le_trans (Int.ediv_le_self _ (by decide)) (by decide)⟩
theorem wt_last (i : Int) : (128 : Int) / 2 ^ (i % 8).toNat = wt i := by
  have h : i % 8 = 0 ∨ i % 8 = 1 ∨ i % 8 = 2 ∨ i % 8 = 3 ∨ i % 8 = 4 ∨ i % 8 = 5 ∨ i % 8 = 6 ∨ i % 8 = 7 := by omega
  unfold wt
  rcases h with h | h | h | h | h | h | h | h <;> rw [h] <;> decide
theorem wt_le (i : Int) : wt i ≤ 128 := by
  have h : i % 8 = 0 ∨ i % 8 = 1 ∨ i % 8 = 2 ∨ i % 8 = 3 ∨ i % 8 = 4 ∨ i % 8 = 5 ∨ i % 8 = 6 ∨ i % 8 = 7 := by omega
  unfold wt
  rcases h with h | h | h | h | h | h | h | h <;> rw [h] <;> decide
theorem setB_bd {d : List Int} (hb : Byt d) (i b : Int) (h : b = 0 ∨ b = 1) :
    (-9223372036854775808 ≤ (b - bitOf d i) * wt i ∧ (b - bitOf d i) * wt i ≤ 9223372036854775807) ∧ (-9223372036854775808 ≤ nth d (i / 8) + (b - bitOf d i) * wt i ∧ nth d (i / 8) + (b - bitOf d i) * wt i ≤ 9223372036854775807) ∧ (0 ≤ nth d (i / 8) + (b - bitOf d i) * wt i ∧ nth d (i / 8) + (b - bitOf d i) * wt i ≤ 255) := by
  have h1 := setB_range hb i b h
  have h2 := hb.nth (i / 8)
  generalize (b - bitOf d i) * wt i = z at *
  omega
end Go.Sx
namespace Go.Sx
theorem rpre_step {d c : List Int} {n k : Int} (hc : c.length = 32) (hcb : Byt c) (h0 : 0 ≤ n) (hk0 : n ≤ k) (hk : k < 256) (hbits : ∀ i : Int, 0 ≤ i → i < 256 → bitOf c i = if n ≤ i ∧ i < k then 0 else bitOf d i) :
    ∀ i : Int, 0 ≤ i → i < 256 → bitOf (withV c k 0) i = if n ≤ i ∧ i < k + 1 then 0 else bitOf d i := by
  intro i g0 g1
  rw [withV_in c k 0 (by omega) (by omega) (.inl rfl), bitOf_setBit hc hcb (by omega) (by omega) g0 (.inl rfl), hbits i g0 g1]
  by_cases e : i = k
  · subst e; rw [if_pos rfl, if_pos (by omega)]
  · rw [if_neg e]
    by_cases e2 : n ≤ i ∧ i < k
    · rw [if_pos e2, if_pos (by omega)]
    · rw [if_neg e2, if_neg (by omega)]
theorem rpre_last {d c : List Int} {n : Int} (hb : Byt d) (hc : c.length = 32) (hcb : Byt c) (hbits : ∀ i : Int, 0 ≤ i → i < 256 → bitOf c i = if n ≤ i ∧ i < 256 then 0 else bitOf d i) : c = mix d n 32 :=
  pre_unique hb hc hcb n fun i h0 h1 => by
    rw [hbits i h0 h1]
    by_cases e : i < n
    · rw [if_neg (by omega), if_pos e]
    · rw [if_pos (by omega), if_neg e]
end Go.Sx
namespace Go.Sx
theorem pre_eq_iff {a b : List Int} (hA : Byt a) (hB : Byt b) {n : Int} (h0 : 0 ≤ n) (h1 : n ≤ 256) : preV a n = preV b n ↔ n ≤ com a b := by
  obtain ⟨g0, g1, g2, g3⟩ := com_spec a b
  rw [preV_in a n h0 h1, preV_in b n h0 h1]
  constructor
  · intro h
    apply Int.le_of_not_gt
    intro hlt
    have : bitOf (pre a n) (com a b) = bitOf (pre b n) (com a b) := congrArg (fun l => bitOf l (com a b)) h
    rw [bitOf_pre hA n g0 (by omega), bitOf_pre hB n g0 (by omega), if_pos hlt, if_pos hlt] at this
    exact g3 (by omega) this
  · intro h
    refine bits_ext (mix_length _ _ _) (mix_length _ _ _) (pre_byt hA n) (pre_byt hB n) fun i hi0 hi1 => ?_
    rw [show mix a n 32 = pre a n from rfl, show mix b n 32 = pre b n from rfl, bitOf_pre hA n hi0 hi1, bitOf_pre hB n hi0 hi1]
    by_cases e : i < n
    · rw [if_pos e, if_pos e, g2 i hi0 (by omega)]
    · rw [if_neg e, if_neg e]
theorem pre_eq_bool {a b : List Int} (hA : Byt a) (hB : Byt b) {n : Int} (h0 : 0 ≤ n) (h1 : n ≤ 256) : (decide (preV a n = preV b n) == decide (n ≤ com a b)) = true := by
  rw [beq_iff_eq, decide_eq_decide]
  exact pre_eq_iff hA hB h0 h1
theorem com_pre {a : List Int} (hA : Byt a) {n : Int} (h0 : 0 ≤ n) (h1 : n ≤ 256) : n ≤ com a (preV a n) := by
  obtain ⟨g0, g1, g2, g3⟩ := com_spec a (preV a n)
  apply Int.le_of_not_gt
  intro hlt
  apply g3 (by omega)
  rw [preV_in a n h0 h1, show mix a n 32 = pre a n from rfl] at *
  rw [bitOf_pre hA n g0 (by omega), if_pos hlt]
theorem less_iff (a b : List Int) : lessB a b = true ↔ com a b < 256 ∧ bitOf a (com a b) = 0 := by simp [lessB]
theorem less_two {a b : List Int} (ha : a.length = 32) (hb : b.length = 32) (hA : Byt a) (hB : Byt b) (hne : a ≠ b) : lessB b a = !lessB a b := by
  obtain ⟨g0, g1, g2, g3⟩ := com_spec a b
  have hlt : com a b < 256 := by
    rcases Int.lt_or_eq_of_le g1 with h | h
    · exact h
    · exact absurd ((com_eq ha hb hA hB).1 h) hne
  have h1 := g3 hlt
  have t1 := bitOf_two a (com a b)
  have t2 := bitOf_two b (com a b)
  rw [Bool.eq_iff_iff, less_iff, Bool.not_eq_true', ← Bool.not_eq_true, less_iff, com_comm b a]
  omega
theorem less_trans {a b c : List Int} (h1 : lessB a b = true) (h2 : lessB b c = true) : lessB a c = true := by
  rw [less_iff] at *
  obtain ⟨g0, g1, g2, g3⟩ := com_spec a b
  obtain ⟨k0, k1, k2, k3⟩ := com_spec b c
  have d1 := g3 h1.1
  have d2 := k3 h2.1
  have t2 := bitOf_two b (com a b)
  have t3 := bitOf_two c (com b c)
  have hm : (com a b ≤ com b c ∧ com a b = com a c ∧ bitOf a (com a c) = 0) ∨ (com b c < com a b ∧ com b c = com a c ∧ bitOf a (com a c) = 0) := by
    by_cases hle : com a b ≤ com b c
    · left
      have hb : com a b = com a c := by
        refine com_unique g0 g1 (fun k q0 q1 => (g2 k q0 q1).trans (k2 k q0 (by omega))) (fun _ => ?_)
        by_cases he : com a b = com b c
        · rw [he] at d1 h1 ⊢
          omega
        · rw [← k2 _ g0 (by omega)]
          exact d1
      exact ⟨hle, hb, by rw [← hb]; exact h1.2⟩
    · right
      have hb : com b c = com a c := by
        refine com_unique k0 k1 (fun k q0 q1 => (g2 k q0 (by omega)).trans (k2 k q0 q1)) (fun _ => ?_)
        rw [g2 _ k0 (by omega)]
        exact d2
      exact ⟨by omega, hb, by rw [← hb, g2 _ k0 (by omega)]; exact h2.2⟩
  rcases hm with ⟨_, e, h⟩ | ⟨_, e, h⟩
  · exact ⟨by omega, h⟩
  · exact ⟨by omega, h⟩
/-- A bit that is turned is where the two paths part. -/
theorem turn_com {p : List Int} (hl : p.length = 32) (hb : Byt p) {i b : Int} (h0 : 0 ≤ i) (h1 : i < 256) (h : b = 0 ∨ b = 1) (hne : p ≠ setBit p i b) : com p (setBit p i b) = i ∧ lessB p (setBit p i b) = decide (b = 1) := by
  have hbit : bitOf p i ≠ b := by
    intro e
    apply hne
    refine bits_ext hl (by rw [setBit_length]; exact hl) hb (setBit_byt hb i b h) fun j j0 j1 => ?_
    rw [bitOf_setBit hl hb h0 h1 j0 h]
    by_cases hji : j = i
    · rw [if_pos hji, hji, e]
    · rw [if_neg hji]
  have hc : i = com p (setBit p i b) := by
    refine com_unique h0 (by omega) (fun k k0 k1 => ?_) (fun _ => ?_)
    · rw [bitOf_setBit hl hb h0 h1 k0 h, if_neg (by omega)]
    · rw [bitOf_setBit hl hb h0 h1 h0 h, if_pos rfl]
      exact hbit
  refine ⟨hc.symm, ?_⟩
  have t := bitOf_two p i
  rw [Bool.eq_iff_iff, less_iff, ← hc, decide_eq_true_eq]
  omega
end Go.Sx
namespace Go.Sx
theorem turn_bits {d : List Int} (hl : d.length = 32) (hb : Byt d) {i b k : Int} (h0 : 0 ≤ i) (h1 : i < 256) (h : b = 0 ∨ b = 1) (k0 : 0 ≤ k) (k1 : k < 256) : (k ≠ i → bitV (withV d i b) k = bitV d k) ∧ (k = i → bitV (withV d i b) k = b) := by
  unfold bitV
  rw [if_pos ⟨k0, k1⟩, if_pos ⟨k0, k1⟩, withV_in d i b h0 h1 h, bitOf_setBit hl hb h0 h1 k0 h]
  exact ⟨fun e => if_neg e, fun e => if_pos e⟩
end Go.Sx
