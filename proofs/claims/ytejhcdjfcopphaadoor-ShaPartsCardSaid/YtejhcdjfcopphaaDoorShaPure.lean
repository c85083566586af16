/- Words of 32 bits, and what a sum of layer 2 is: plain facts, no program in sight. -/
import Derived.Test.YtejhcdjfcopphaaDoorSx2
set_option linter.unusedVariables false
set_option linter.unusedSimpArgs false
namespace Go.Sx
abbrev Wd := BitVec 32
def wi (x : Wd) : Int := (x.toNat : Int)
abbrev wv (x : Wd) : Value := .int .u32 (wi x)
def wl (l : List Wd) : List Value := l.map wv
def wn (n : Int) : Wd := BitVec.ofInt 32 n
theorem wi_range (x : Wd) : 0 ≤ wi x ∧ wi x < 4294967296 := by
  have := x.isLt
  unfold wi
  omega
theorem wn_wi (x : Wd) : wn (wi x) = x := by
  unfold wn wi
  rw [BitVec.ofInt_natCast, BitVec.ofNat_toNat, BitVec.setWidth_eq]
theorem wi_wn {n : Int} (h0 : 0 ≤ n) (h1 : n < 4294967296) : wi (wn n) = n := by
  unfold wn wi
  rw [BitVec.toNat_ofInt]
  omega
theorem w_of (n : Int) : IntKind.u32.wrap n = wi (wn n) := by
  rw [IntKind.wrap_u32]
  unfold wn wi
  rw [BitVec.toNat_ofInt]
  omega
theorem w_add (x y : Wd) : IntKind.u32.wrap (wi x + wi y) = wi (x + y) := by
  rw [IntKind.wrap_u32]
  unfold wi
  rw [BitVec.toNat_add]
  omega
theorem w_back (x : Wd) : IntKind.u32.wrap (wi x) = wi x := Go.IntWalk.u32_in _ (by have := wi_range x; omega)
theorem w_xor (x y : Wd) : bits2 .xor .u32 (wi x) (wi y) = wi (x ^^^ y) := by
  show IntKind.u32.wrap ((wn (wi x) ^^^ wn (wi y) : Wd).toNat : Int) = _
  rw [wn_wi, wn_wi]
  exact w_back _
theorem w_and (x y : Wd) : bits2 .and .u32 (wi x) (wi y) = wi (x &&& y) := by
  show IntKind.u32.wrap ((wn (wi x) &&& wn (wi y) : Wd).toNat : Int) = _
  rw [wn_wi, wn_wi]
  exact w_back _
theorem w_or (x y : Wd) : bits2 .or .u32 (wi x) (wi y) = wi (x ||| y) := by
  show IntKind.u32.wrap ((wn (wi x) ||| wn (wi y) : Wd).toNat : Int) = _
  rw [wn_wi, wn_wi]
  exact w_back _
theorem w_not (x : Wd) : bits2 .xor .u32 4294967295 (wi x) = wi (~~~x) := by
  show IntKind.u32.wrap ((wn 4294967295 ^^^ wn (wi x) : Wd).toNat : Int) = _
  rw [wn_wi, show wn 4294967295 = BitVec.allOnes 32 by decide, BitVec.allOnes_xor]
  exact w_back _
theorem w_shr (x : Wd) (n : Nat) (h : n ≤ 32) : (wi x).fdiv (2 ^ (min (n : Int).toNat IntKind.u32.bits)) = wi (x >>> n) := by
  have h1 : min (n : Int).toNat IntKind.u32.bits = n := by rw [Int.toNat_natCast]; exact Nat.min_eq_left h
  rw [h1]
  unfold wi
  rw [BitVec.toNat_ushiftRight, Nat.shiftRight_eq_div_pow, Int.fdiv_eq_ediv_of_nonneg _ (by exact Int.pow_nonneg (by omega)), Int.natCast_ediv, Int.natCast_pow]
  rfl
theorem w_shl (x : Wd) (n : Nat) (h : n ≤ 32) : IntKind.u32.wrap (wi x * 2 ^ (min (n : Int).toNat IntKind.u32.bits)) = wi (x <<< n) := by
  have h1 : min (n : Int).toNat IntKind.u32.bits = n := by rw [Int.toNat_natCast]; exact Nat.min_eq_left h
  rw [h1, IntKind.wrap_u32]
  unfold wi
  rw [BitVec.toNat_shiftLeft, Nat.shiftLeft_eq, Int.natCast_emod, Int.natCast_mul, Int.natCast_pow]
  rfl
/-- Turned right. -/
def rr (k : Nat) (x : Wd) : Wd := x >>> k ||| x <<< (32 - k)
theorem rr_comm (k : Nat) (x : Wd) : x <<< (32 - k) ||| x >>> k = rr k x := by unfold rr; exact BitVec.or_comm _ _
theorem and31 : ∀ k : Nat, k < 32 → 1 ≤ k → bits2 .and .u64 (18446744073709551616 - (k : Int)) 31 = 32 - (k : Int) := by decide +kernel
theorem wl_len (l : List Wd) : (wl l).length = l.length := by simp [wl]
def nw (l : List Wd) (i : Int) : Wd := l.getD i.toNat 0
theorem wl_get {l : List Wd} {i : Int} (h0 : 0 ≤ i) (h1 : i < l.length) : (wl l)[i.toNat]? = some (wv (nw l i)) := by
  have : i.toNat < l.length := by omega
  unfold wl nw
  rw [List.getElem?_map, List.getElem?_eq_getElem this, List.getD_eq_getElem?_getD, List.getElem?_eq_getElem this]
  rfl
theorem wl_set (l : List Wd) (i : Nat) (x : Wd) : (wl l).set i (wv x) = wl (l.set i x) := by simp [wl, List.map_set]
theorem wl_one (l : List Wd) : ∀ u ∈ wl l, u.oneCell' = true := by
  intro u hu
  simp only [wl, List.mem_map] at hu
  obtain ⟨n, _, rfl⟩ := hu
  rfl

/-! ### A block -/
def s0 (x : Wd) : Wd := rr 7 x ^^^ rr 18 x ^^^ x >>> 3
def s1 (x : Wd) : Wd := rr 17 x ^^^ rr 19 x ^^^ x >>> 10
def S1 (e : Wd) : Wd := rr 6 e ^^^ rr 11 e ^^^ rr 25 e
def S0 (a : Wd) : Wd := rr 2 a ^^^ rr 13 a ^^^ rr 22 a
def ch (e f g : Wd) : Wd := e &&& (f ^^^ g) ^^^ g
def mj (a b c : Wd) : Wd := a &&& b ||| c &&& (a ||| b)
theorem ch_eq (e f g : Wd) : e &&& f ^^^ ~~~e &&& g = ch e f g := by
  unfold ch
  ext i hi
  simp
  cases e[i] <;> cases f[i] <;> cases g[i] <;> rfl
theorem mj_eq (a b c : Wd) : a &&& b ^^^ a &&& c ^^^ b &&& c = mj a b c := by
  unfold mj
  ext i hi
  simp
  cases a[i] <;> cases b[i] <;> cases c[i] <;> rfl
structure R8 where
  a : Wd
  b : Wd
  c : Wd
  d : Wd
  e : Wd
  f : Wd
  g : Wd
  h : Wd
  deriving DecidableEq
def R8.l (r : R8) : List Wd := [r.a, r.b, r.c, r.d, r.e, r.f, r.g, r.h]
theorem R8.l_len (r : R8) : r.l.length = 8 := rfl
def R8.add (r s : R8) : R8 := ⟨r.a + s.a, r.b + s.b, r.c + s.c, r.d + s.d, r.e + s.e, r.f + s.f, r.g + s.g, r.h + s.h⟩
def one8 (r : R8) (k x : Wd) : Wd := r.h + S1 r.e + ch r.e r.f r.g + k + x
def two8 (r : R8) : Wd := S0 r.a + mj r.a r.b r.c
def stp (r : R8) (k x : Wd) : R8 := ⟨one8 r k x + two8 r, r.a, r.b, r.c, r.d + one8 r k x, r.e, r.f, r.g⟩
/-- The word at a place of a block. -/
def wd (bl : List Int) (t : Nat) : Wd := wn (bl.getD (4 * t) 0 * 16777216 + bl.getD (4 * t + 1) 0 * 65536 + bl.getD (4 * t + 2) 0 * 256 + bl.getD (4 * t + 3) 0)
def nx (s : List Wd) (t : Nat) : Wd := s.getD (t - 16) 0 + s0 (s.getD (t - 15) 0) + s.getD (t - 7) 0 + s1 (s.getD (t - 2) 0)
def sch (bl : List Int) : Nat → List Wd
  | 0 => []
  | t + 1 => sch bl t ++ [if t < 16 then wd bl t else nx (sch bl t) t]
theorem sch_len (bl : List Int) : ∀ t, (sch bl t).length = t
  | 0 => rfl
  | t + 1 => by rw [sch, List.length_append, sch_len bl t]; rfl
def rnd (K : List Wd) (x : List Wd) (r : R8) : Nat → R8
  | 0 => r
  | t + 1 => stp (rnd K x r t) (K.getD t 0) (x.getD t 0)
def blk (K : List Wd) (r : R8) (bl : List Int) : R8 := r.add (rnd K (sch bl 64) r 64)
/-- The array of words, so far as it is made. -/
def arr (bl : List Int) (t : Nat) : List Wd := sch bl t ++ List.replicate (64 - t) 0
theorem arr_len (bl : List Int) {t : Nat} (h : t ≤ 64) : (arr bl t).length = 64 := by
  unfold arr
  rw [List.length_append, sch_len, List.length_replicate]
  omega
theorem arr_get (bl : List Int) {t : Nat} {i : Int} {j : Nat} (hi : i = j) (hj : j < t) : nw (arr bl t) i = (sch bl t).getD j 0 := by
  subst hi
  unfold nw arr
  rw [Int.toNat_natCast, List.getD_eq_getElem?_getD, List.getElem?_append_left (by rw [sch_len]; exact hj), ← List.getD_eq_getElem?_getD]
theorem arr_set (bl : List Int) {t : Nat} (h : t < 64) : (arr bl t).set t (if t < 16 then wd bl t else nx (sch bl t) t) = arr bl (t + 1) := by
  unfold arr
  rw [List.set_append_right _ _ (by rw [sch_len]; exact Nat.le_refl _), sch_len, Nat.sub_self, show 64 - t = (64 - (t + 1)) + 1 by omega, List.replicate_succ, List.set_cons_zero, sch, List.append_assoc]
  rfl
theorem arr_end (bl : List Int) : arr bl 64 = sch bl 64 := by
  unfold arr
  simp
/-! ### The bytes of a word -/
theorem or_bytes {A x : Int} (n : Nat) (h0 : 0 ≤ A) (h1 : A * 2 ^ n < 4294967296) (h2 : 0 ≤ x) (h3 : x < 2 ^ n) (h4 : x < 4294967296) : bits2 .or .u32 (A * 2 ^ n) x = A * 2 ^ n + x := by
  show IntKind.u32.wrap ((wn (A * 2 ^ n) ||| wn x : Wd).toNat : Int) = _
  have e1 : 0 ≤ A * 2 ^ n := Int.mul_nonneg h0 (Int.pow_nonneg (by omega))
  obtain ⟨a, rfl⟩ := Int.eq_ofNat_of_zero_le h0
  obtain ⟨y, rfl⟩ := Int.eq_ofNat_of_zero_le h2
  have e2 : ((a : Int) * 2 ^ n) = ((a * 2 ^ n : Nat) : Int) := by rw [Int.natCast_mul, Int.natCast_pow]; rfl
  have e3 : y < 2 ^ n := by
    have : ((y : Nat) : Int) < ((2 ^ n : Nat) : Int) := by rw [show ((2 ^ n : Nat) : Int) = (2 : Int) ^ n by rw [Int.natCast_pow]; rfl]; exact h3
    omega
  have h1' : a * 2 ^ n < 4294967296 := by rw [e2] at h1; omega
  have p32 : (4294967296 : Nat) = 2 ^ 32 := by decide
  have hy : y < 4294967296 := by omega
  have h2' : a * 2 ^ n < 2 ^ 32 := p32 ▸ h1'
  have h3' : y < 2 ^ 32 := p32 ▸ hy
  have e4 : a * 2 ^ n + y = a * 2 ^ n ||| y := by
    have := Nat.shiftLeft_add_eq_or_of_lt e3 a
    rwa [Nat.shiftLeft_eq] at this
  have e5 : (wn ((a : Int) * 2 ^ n) ||| wn (y : Int) : Wd).toNat = a * 2 ^ n ||| y := by
    rw [BitVec.toNat_or, e2]
    unfold wn
    rw [BitVec.ofInt_natCast, BitVec.ofInt_natCast, BitVec.toNat_ofNat, BitVec.toNat_ofNat, Nat.mod_eq_of_lt h2', Nat.mod_eq_of_lt h3']
  have e6 : a * 2 ^ n ||| y < 2 ^ 32 := Nat.or_lt_two_pow h2' h3'
  rw [e5, ← e4, e2]
  rw [← e4, ← p32] at e6
  rw [Go.IntWalk.u32_in _ (by omega)]
  omega
/-! ### A hash's cells -/
def hL (ws : List Wd) (bl : List Int) (n : Int) : List Value := wl ws ++ (dg bl ++ [.int .i64 n])
theorem hL_len {ws : List Wd} {bl : List Int} (n : Int) (hw : ws.length = 8) (hb : bl.length = 64) : (hL ws bl n).length = 73 := by
  unfold hL
  rw [List.length_append, List.length_append, wl_len, dg_length, hw, hb]
  rfl
theorem hL_word {ws : List Wd} {bl : List Int} {n : Int} {i : Nat} (hi : i < ws.length) : (hL ws bl n)[i]? = some (wv (ws.getD i 0)) := by
  unfold hL
  rw [List.getElem?_append_left (by rw [wl_len]; exact hi)]
  have := wl_get (l := ws) (i := (i : Int)) (by omega) (by omega)
  rw [Int.toNat_natCast] at this
  rw [this]
  unfold nw
  rw [Int.toNat_natCast]
theorem hL_byte {ws : List Wd} {bl : List Int} {n : Int} {i : Nat} (k : Nat) (hw : ws.length = 8) (hi : i = 8 + k) (hk : k < bl.length) : (hL ws bl n)[i]? = some (.int .u8 (bl.getD k 0)) := by
  subst hi
  unfold hL
  rw [List.getElem?_append_right (by rw [wl_len]; omega), wl_len, hw, show 8 + k - 8 = k by omega, List.getElem?_append_left (by rw [dg_length]; exact hk)]
  unfold dg
  rw [List.getElem?_map, List.getElem?_eq_getElem hk, List.getD_eq_getElem?_getD, List.getElem?_eq_getElem hk]
  rfl
theorem hL_n {ws : List Wd} {bl : List Int} {n : Int} (hw : ws.length = 8) (hb : bl.length = 64) : (hL ws bl n)[72]? = some (.int .i64 n) := by
  unfold hL
  rw [List.getElem?_append_right (by rw [wl_len]; omega), wl_len, hw, List.getElem?_append_right (by rw [dg_length]; omega), dg_length, hb]
  rfl
theorem hL_setw {ws : List Wd} {bl : List Int} {n : Int} {i : Nat} (hi : i < ws.length) (x : Wd) : (hL ws bl n).set i (wv x) = hL (ws.set i x) bl n := by
  unfold hL
  rw [List.set_append_left _ _ (by rw [wl_len]; exact hi), wl_set]
theorem hL_setn {ws : List Wd} {bl : List Int} {n : Int} (m : Int) (hw : ws.length = 8) (hb : bl.length = 64) : (hL ws bl n).set 72 (.int .i64 m) = hL ws bl m := by
  unfold hL
  rw [List.set_append_right _ _ (by rw [wl_len]; omega), wl_len, hw, List.set_append_right _ _ (by rw [dg_length]; omega), dg_length, hb]
  rfl
theorem hL_one (ws : List Wd) (bl : List Int) (n : Int) : ∀ u ∈ hL ws bl n, u.oneCell' = true := by
  intro u hu
  unfold hL at hu
  rcases List.mem_append.1 hu with h | h
  · exact wl_one _ u h
  · rcases List.mem_append.1 h with h | h
    · exact dg_one _ u h
    · simp only [List.mem_singleton] at h; subst h; rfl
def acc (r s : R8) (i : Nat) : List Wd := (r.add s).l.take i ++ r.l.drop i
theorem acc_len (r s : R8) : ∀ i, i ≤ 8 → (acc r s i).length = 8 := by
  intro i hi
  unfold acc
  rw [List.length_append, List.length_take, List.length_drop, R8.l_len, R8.l_len]
  omega
theorem acc_set (r s : R8) : ∀ i, i < 8 → (acc r s i).set i ((acc r s i).getD i 0 + s.l.getD i 0) = acc r s (i + 1)
  | 0, _ => rfl
  | 1, _ => rfl
  | 2, _ => rfl
  | 3, _ => rfl
  | 4, _ => rfl
  | 5, _ => rfl
  | 6, _ => rfl
  | 7, _ => rfl
theorem nx_ref (s : List Wd) (t : Nat) : s1 (s.getD (t - 2) 0) + s.getD (t - 7) 0 + s0 (s.getD (t - 15) 0) + s.getD (t - 16) 0 = nx s t := by
  unfold nx
  ac_rfl
theorem or1 {x0 x1 : Int} (h0 : 0 ≤ x0 ∧ x0 < 256) (h1 : 0 ≤ x1 ∧ x1 < 256) : bits2 .or .u32 (x0 * 16777216) (x1 * 65536) = x0 * 16777216 + x1 * 65536 := by
  have := or_bytes (A := x0) (x := x1 * 65536) 24 (by omega) (by rw [show (2 : Int) ^ 24 = 16777216 from rfl]; omega) (by omega) (by rw [show (2 : Int) ^ 24 = 16777216 from rfl]; omega) (by omega)
  rwa [show (2 : Int) ^ 24 = 16777216 from rfl] at this
theorem or2 {x0 x1 x2 : Int} (h0 : 0 ≤ x0 ∧ x0 < 256) (h1 : 0 ≤ x1 ∧ x1 < 256) (h2 : 0 ≤ x2 ∧ x2 < 256) : bits2 .or .u32 (x0 * 16777216 + x1 * 65536) (x2 * 256) = x0 * 16777216 + x1 * 65536 + x2 * 256 := by
  have := or_bytes (A := x0 * 256 + x1) (x := x2 * 256) 16 (by omega) (by rw [show (2 : Int) ^ 16 = 65536 from rfl]; omega) (by omega) (by rw [show (2 : Int) ^ 16 = 65536 from rfl]; omega) (by omega)
  rwa [show (2 : Int) ^ 16 = 65536 from rfl, show (x0 * 256 + x1) * 65536 = x0 * 16777216 + x1 * 65536 by omega] at this
theorem or3 {x0 x1 x2 x3 : Int} (h0 : 0 ≤ x0 ∧ x0 < 256) (h1 : 0 ≤ x1 ∧ x1 < 256) (h2 : 0 ≤ x2 ∧ x2 < 256) (h3 : 0 ≤ x3 ∧ x3 < 256) : bits2 .or .u32 (x0 * 16777216 + x1 * 65536 + x2 * 256) x3 = x0 * 16777216 + x1 * 65536 + x2 * 256 + x3 := by
  have := or_bytes (A := x0 * 65536 + x1 * 256 + x2) (x := x3) 8 (by omega) (by rw [show (2 : Int) ^ 8 = 256 from rfl]; omega) (by omega) (by rw [show (2 : Int) ^ 8 = 256 from rfl]; omega) (by omega)
  rwa [show (2 : Int) ^ 8 = 256 from rfl, show (x0 * 65536 + x1 * 256 + x2) * 256 = x0 * 16777216 + x1 * 65536 + x2 * 256 by omega] at this
theorem shl24 {x : Int} (h : 0 ≤ x ∧ x < 256) : IntKind.u32.wrap (x * 2 ^ (min (24 : Int).toNat IntKind.u32.bits)) = x * 16777216 := by
  show IntKind.u32.wrap (x * 16777216) = _
  exact Go.IntWalk.u32_in _ (by omega)
theorem shl16 {x : Int} (h : 0 ≤ x ∧ x < 256) : IntKind.u32.wrap (x * 2 ^ (min (16 : Int).toNat IntKind.u32.bits)) = x * 65536 := by
  show IntKind.u32.wrap (x * 65536) = _
  exact Go.IntWalk.u32_in _ (by omega)
theorem shl8 {x : Int} (h : 0 ≤ x ∧ x < 256) : IntKind.u32.wrap (x * 2 ^ (min (8 : Int).toNat IntKind.u32.bits)) = x * 256 := by
  show IntKind.u32.wrap (x * 256) = _
  exact Go.IntWalk.u32_in _ (by omega)
theorem wi_wd {bl : List Int} {t : Nat} (h0 : 0 ≤ bl.getD (4 * t) 0 ∧ bl.getD (4 * t) 0 < 256) (h1 : 0 ≤ bl.getD (4 * t + 1) 0 ∧ bl.getD (4 * t + 1) 0 < 256) (h2 : 0 ≤ bl.getD (4 * t + 2) 0 ∧ bl.getD (4 * t + 2) 0 < 256) (h3 : 0 ≤ bl.getD (4 * t + 3) 0 ∧ bl.getD (4 * t + 3) 0 < 256) :
    bl.getD (4 * t) 0 * 16777216 + bl.getD (4 * t + 1) 0 * 65536 + bl.getD (4 * t + 2) 0 * 256 + bl.getD (4 * t + 3) 0 = wi (wd bl t) := by
  unfold wd
  rw [wi_wn (by omega) (by omega)]
def KT : List Wd := [0x428a2f98, 0x71374491, 0xb5c0fbcf, 0xe9b5dba5, 0x3956c25b, 0x59f111f1, 0x923f82a4, 0xab1c5ed5, 0xd807aa98, 0x12835b01, 0x243185be, 0x550c7dc3, 0x72be5d74, 0x80deb1fe, 0x9bdc06a7, 0xc19bf174, 0xe49b69c1, 0xefbe4786, 0x0fc19dc6, 0x240ca1cc, 0x2de92c6f, 0x4a7484aa, 0x5cb0a9dc, 0x76f988da, 0x983e5152, 0xa831c66d, 0xb00327c8, 0xbf597fc7, 0xc6e00bf3, 0xd5a79147, 0x06ca6351, 0x14292967, 0x27b70a85, 0x2e1b2138, 0x4d2c6dfc, 0x53380d13, 0x650a7354, 0x766a0abb, 0x81c2c92e, 0x92722c85, 0xa2bfe8a1, 0xa81a664b, 0xc24b8b70, 0xc76c51a3, 0xd192e819, 0xd6990624, 0xf40e3585, 0x106aa070, 0x19a4c116, 0x1e376c08, 0x2748774c, 0x34b0bcb5, 0x391c0cb3, 0x4ed8aa4a, 0x5b9cca4f, 0x682e6ff3, 0x748f82ee, 0x78a5636f, 0x84c87814, 0x8cc70208, 0x90befffa, 0xa4506ceb, 0xbef9a3f7, 0xc67178f2]
def R0 : R8 := ⟨0x6a09e667, 0xbb67ae85, 0x3c6ef372, 0xa54ff53a, 0x510e527f, 0x9b05688c, 0x1f83d9ab, 0x5be0cd19⟩
theorem w_shlk (x : Wd) (k : Nat) (h : k ≤ 31) : IntKind.u32.wrap (wi x * 2 ^ (min (32 - (k : Int)).toNat IntKind.u32.bits)) = wi (x <<< (32 - k)) := by
  rw [show (32 - (k : Int)) = ((32 - k : Nat) : Int) by omega]
  exact w_shl x (32 - k) (by omega)
def KTi : List Int := [1116352408, 1899447441, 3049323471, 3921009573, 961987163, 1508970993, 2453635748, 2870763221, 3624381080, 310598401, 607225278, 1426881987, 1925078388, 2162078206, 2614888103, 3248222580, 3835390401, 4022224774, 264347078, 604807628, 770255983, 1249150122, 1555081692, 1996064986, 2554220882, 2821834349, 2952996808, 3210313671, 3336571891, 3584528711, 113926993, 338241895, 666307205, 773529912, 1294757372, 1396182291, 1695183700, 1986661051, 2177026350, 2456956037, 2730485921, 2820302411, 3259730800, 3345764771, 3516065817, 3600352804, 4094571909, 275423344, 430227734, 506948616, 659060556, 883997877, 958139571, 1322822218, 1537002063, 1747873779, 1955562222, 2024104815, 2227730452, 2361852424, 2428436474, 2756734187, 3204031479, 3329325298]
theorem KTi_eq : ∀ i, i < 64 → KTi.getD i 0 = wi (KT.getD i 0) := by decide +kernel
end Go.Sx
