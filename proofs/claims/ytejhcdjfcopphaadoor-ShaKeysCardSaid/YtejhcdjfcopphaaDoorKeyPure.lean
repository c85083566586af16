/- Cube roots, by parts of 32 bits; primes: plain facts. -/
import Derived.Test.YtejhcdjfcopphaaDoorShaPure2
set_option linter.unusedVariables false
set_option linter.unusedSimpArgs false
set_option maxRecDepth 100000
namespace Go.Sx
/-- One step of a long multiplication: out, carry. -/
def mval (a c : List Nat) (i j : Nat) (s : List Nat × Nat) : Nat := s.1.getD (i + j) 0 + c.getD i 0 * a.getD j 0 + s.2
def mstep (a c : List Nat) (i j : Nat) (s : List Nat × Nat) : List Nat × Nat := (s.1.set (i + j) (mval a c i j s % 4294967296), mval a c i j s / 4294967296)
def mrow (a c : List Nat) (i : Nat) : Nat → List Nat × Nat → List Nat × Nat
  | 0, s => s
  | j + 1, s => mstep a c i j (mrow a c i j s)
def z8 : List Nat := [0, 0, 0, 0, 0, 0, 0, 0]
def mall (a c : List Nat) : Nat → List Nat
  | 0 => z8
  | i + 1 => (mrow a c i 4 (mall a c i, 0)).1
def cubeN (a : List Nat) : Nat → List Nat
  | 0 => [1, 0, 0, 0, 0, 0, 0, 0]
  | k + 1 => mall a (cubeN a k) 5
def finN (c : List Nat) (p : Nat) : Bool := decide (¬ (0 < c.getD 4 0 ∨ 0 < c.getD 5 0 ∨ 0 < c.getD 6 0 ∨ 0 < c.getD 7 0) ∧ (c.getD 3 0 < p ∨ (c.getD 3 0 = p ∧ c.getD 0 0 = 0 ∧ c.getD 1 0 = 0 ∧ c.getD 2 0 = 0)))
def limbs (x : Nat) : List Nat := [x % 4294967296, x / 4294967296, 0, 0]
def fitsN (x p : Nat) : Bool := finN (cubeN (limbs x) 3) p
def rootN (p : Nat) : Nat → Nat
  | 0 => 0
  | b + 1 => if fitsN (rootN p b + 2 ^ (35 - b)) p = true then rootN p b + 2 ^ (35 - b) else rootN p b
def Lim (n : Nat) (l : List Nat) : Prop := l.length = n ∧ ∀ x ∈ l, x < 4294967296
theorem Lim.get {n : Nat} {l : List Nat} (h : Lim n l) (i : Nat) : l.getD i 0 < 4294967296 := by
  rw [List.getD_eq_getElem?_getD]
  cases hq : l[i]? with
  | none => decide
  | some x => exact h.2 x (List.mem_of_getElem? hq)
theorem Lim.set {n : Nat} {l : List Nat} (h : Lim n l) (i : Nat) {x : Nat} (hx : x < 4294967296) : Lim n (l.set i x) := by
  refine ⟨by rw [List.length_set]; exact h.1, fun y hy => ?_⟩
  rcases List.mem_or_eq_of_mem_set hy with h1 | h1
  · exact h.2 y h1
  · omega
theorem mval_lt {a c : List Nat} {i j : Nat} {s : List Nat × Nat} (ha : Lim 4 a) (hc : Lim 8 c) (hs : Lim 8 s.1) (h2 : s.2 < 4294967296) : c.getD i 0 * a.getD j 0 ≤ 18446744065119617025 ∧ mval a c i j s < 18446744073709551616 := by
  have h3 := ha.get j
  have h4 := hc.get i
  have h5 := hs.get (i + j)
  have h6 : c.getD i 0 * a.getD j 0 ≤ 4294967295 * 4294967295 := Nat.mul_le_mul (by omega) (by omega)
  refine ⟨by omega, ?_⟩
  unfold mval
  omega
theorem mstep_lim {a c : List Nat} {i j : Nat} {s : List Nat × Nat} (ha : Lim 4 a) (hc : Lim 8 c) (hs : Lim 8 s.1 ∧ s.2 < 4294967296) : Lim 8 (mstep a c i j s).1 ∧ (mstep a c i j s).2 < 4294967296 := by
  have h := (mval_lt (i := i) (j := j) ha hc hs.1 hs.2).2
  unfold mstep
  exact ⟨hs.1.set _ (Nat.mod_lt _ (by decide)), by show _ / _ < _; omega⟩
theorem mrow_lim {a c : List Nat} {i : Nat} {s : List Nat × Nat} (ha : Lim 4 a) (hc : Lim 8 c) (hs : Lim 8 s.1 ∧ s.2 < 4294967296) : ∀ j, Lim 8 (mrow a c i j s).1 ∧ (mrow a c i j s).2 < 4294967296
  | 0 => hs
  | j + 1 => mstep_lim ha hc (mrow_lim ha hc hs j)
theorem z8_lim : Lim 8 z8 := ⟨rfl, fun x hx => by unfold z8 at hx; simp at hx; omega⟩
theorem mall_lim {a c : List Nat} (ha : Lim 4 a) (hc : Lim 8 c) : ∀ i, Lim 8 (mall a c i)
  | 0 => z8_lim
  | i + 1 => (mrow_lim ha hc ⟨mall_lim ha hc i, (show (0 : Nat) < 4294967296 by decide)⟩ 4).1
theorem cube_lim {a : List Nat} (ha : Lim 4 a) : ∀ k, Lim 8 (cubeN a k)
  | 0 => ⟨rfl, fun x hx => by unfold cubeN at hx; simp at hx; omega⟩
  | k + 1 => mall_lim ha (cube_lim ha k) 5
theorem limbs_lim {x : Nat} (h : x < 68719476736) : Lim 4 (limbs x) := ⟨rfl, fun y hy => by unfold limbs at hy; simp at hy; omega⟩
theorem root_le (p : Nat) : ∀ b, b ≤ 36 → rootN p b + 2 ^ (36 - b) ≤ 68719476736
  | 0, _ => by show 0 + 2 ^ 36 ≤ _; decide
  | b + 1, hb => by
    have h := root_le p b (by omega)
    have h1 : 2 ^ (36 - b) = 2 * 2 ^ (35 - b) := by
      rw [show 36 - b = (35 - b) + 1 by omega, Nat.pow_succ, Nat.mul_comm]
    rw [show 36 - (b + 1) = 35 - b by omega]
    unfold rootN
    split <;> omega
def ul (l : List Nat) : List Value := l.map (fun n : Nat => Value.int .u64 (n : Int))
theorem ul_len (l : List Nat) : (ul l).length = l.length := by simp [ul]
theorem ul_get {l : List Nat} {i : Nat} (h : i < l.length) : (ul l)[i]? = some (.int .u64 (l.getD i 0 : Int)) := by
  unfold ul
  rw [List.getElem?_map, List.getD_eq_getElem?_getD, List.getElem?_eq_getElem h]
  rfl
theorem ul_set (l : List Nat) (i x : Nat) : (ul l).set i (.int .u64 (x : Int)) = ul (l.set i x) := by
  unfold ul
  rw [List.map_set]
theorem ul_one (l : List Nat) : ∀ u ∈ ul l, u.oneCell' = true := by
  intro u hu
  obtain ⟨x, _, rfl⟩ := List.mem_map.1 hu
  rfl
theorem u64_mod (x : Nat) : ((x : Int)).tmod 4294967296 = ((x % 4294967296 : Nat) : Int) := by
  rw [Int.tmod_eq_emod_of_nonneg (by omega)]
  omega
theorem u64_hi (x : Nat) : ((x : Int)).fdiv (2 ^ (min ((32 : Int)).toNat IntKind.u64.bits)) = ((x / 4294967296 : Nat) : Int) := by
  rw [Int.fdiv_eq_ediv_of_nonneg _ (Int.pow_nonneg (by omega))]
  show (x : Int) / (2 ^ 32) = _
  have : (2 : Int) ^ 32 = 4294967296 := by decide
  rw [this]
  omega
theorem shl1 {b : Nat} (h : b ≤ 35) : IntKind.u64.wrap (1 * 2 ^ (min (35 - (b : Int)).toNat IntKind.u64.bits)) = ((2 ^ (35 - b) : Nat) : Int) := by
  have h1 : min (35 - (b : Int)).toNat IntKind.u64.bits = 35 - b := by
    show min _ 64 = _
    omega
  have h2 : 2 ^ (35 - b) ≤ 2 ^ 35 := Nat.pow_le_pow_right (by decide) (by omega)
  have h3 : (2 : Nat) ^ 35 = 34359738368 := by decide
  rw [h1, Int.one_mul, show ((2 : Int) ^ (35 - b)) = ((2 ^ (35 - b) : Nat) : Int) by rw [Int.natCast_pow]; rfl]
  generalize hz : 2 ^ (35 - b) = z at h2
  exact Go.IntWalk.u64_in _ (by omega)
/-! ### Primes -/
def primeB (n : Nat) : Bool := (List.range 20).all (fun d => !(decide (2 ≤ d) && decide (d * d ≤ n) && decide (n % d = 0)))
theorem prime_no {n d : Nat} (h1 : d < 20) (h2 : 2 ≤ d) (h3 : d * d ≤ n) (h : n % d = 0) : primeB n = false := by
  cases hp : primeB n with
  | false => rfl
  | true =>
    have := List.all_eq_true.1 hp d (List.mem_range.2 h1)
    simp [h2, h3, h] at this
theorem prime_yes {n d : Nat} (h : ∀ e, e < d → 2 ≤ e → n % e ≠ 0) (h3 : n < d * d) : primeB n = true := by
  refine List.all_eq_true.2 fun e _ => ?_
  by_cases h2 : 2 ≤ e
  · by_cases h4 : e < d
    · simp [h e h4 h2]
    · have : d * d ≤ e * e := Nat.mul_le_mul (by omega) (by omega)
      have h5 : ¬ e * e ≤ n := by omega
      simp [h5]
  · simp [h2]
def PL : List Nat := [2, 3, 5, 7, 11, 13, 17, 19, 23, 29, 31, 37, 41, 43, 47, 53, 59, 61, 67, 71, 73, 79, 83, 89, 97, 101, 103, 107, 109, 113, 127, 131, 137, 139, 149, 151, 157, 163, 167, 173, 179, 181, 191, 193, 197, 199, 211, 223, 227, 229, 233, 239, 241, 251, 257, 263, 269, 271, 277, 281, 283, 293, 307, 311]
def prevP (t : Nat) : Nat := if t = 0 then 1 else PL.getD (t - 1) 0
theorem pl_facts : ∀ t, t < 64 → (1 ≤ prevP t ∧ prevP t < PL.getD t 0 ∧ PL.getD t 0 ≤ 311 ∧ primeB (PL.getD t 0) = true) := by decide +kernel
theorem pl_gap : ∀ t, t < 64 → ∀ q, q < 312 → prevP t < q → q < PL.getD t 0 → primeB q = false := by decide +kernel
end Go.Sx
