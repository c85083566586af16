/- What bytes come to that are summed, part by part: plain facts. -/
import Derived.Test.YtejhcdjfcopphaaDoorSx3
set_option linter.unusedVariables false
set_option linter.unusedSimpArgs false
namespace Go.Sx
def chunk (m : List Int) (k : Nat) : List Int := (m.drop (64 * k)).take 64
def wsn (m : List Int) : Nat → R8
  | 0 => R0
  | k + 1 => blk KT (wsn m k) (chunk m k)
theorem chunk_app {m : List Int} (x : List Int) {k : Nat} (h : 64 * (k + 1) ≤ m.length) : chunk (m ++ x) k = chunk m k := by
  unfold chunk
  rw [List.drop_append, List.take_append, show 64 - (m.drop (64 * k)).length = 0 by rw [List.length_drop]; omega, List.take_zero, List.append_nil]
theorem wsn_app {m : List Int} (x : List Int) : ∀ {k : Nat}, 64 * k ≤ m.length → wsn (m ++ x) k = wsn m k
  | 0, _ => rfl
  | k + 1, h => by
    unfold wsn
    rw [wsn_app x (k := k) (by omega), chunk_app x h]
/-- These words and this block are what bytes come to. -/
structure HS (m : List Int) (ws : R8) (bl : List Int) : Prop where
  w : ws = wsn m (m.length / 64)
  len : bl.length = 64
  byt : Byt bl
  top : bl.take (m.length % 64) = m.drop (64 * (m.length / 64))
theorem hs0 : HS [] R0 (List.replicate 64 0) := ⟨rfl, rfl, fun x hx => by have := List.eq_of_mem_replicate hx; omega, rfl⟩
def blN (m bl x : List Int) : List Int := bl.take (m.length % 64) ++ x.take (64 - m.length % 64) ++ bl.drop (m.length % 64 + min x.length (64 - m.length % 64))
theorem blN_len {m bl : List Int} (x : List Int) (h : bl.length = 64) : (blN m bl x).length = 64 := by
  unfold blN
  rw [List.length_append, List.length_append, List.length_take, List.length_take, List.length_drop]
  omega
theorem blN_byt {m bl x : List Int} (h : Byt bl) (hx : Byt x) : Byt (blN m bl x) := ((h.take _).append (hx.take _)).append (h.drop _)
theorem copy_hL {ws : List Wd} {m bl x : List Int} {n : Int} (hw : ws.length = 8) (hb : bl.length = 64) :
    (hL ws bl n).take (8 + m.length % 64) ++ dg (x.take (64 - m.length % 64)) ++ (hL ws bl n).drop (8 + m.length % 64 + min x.length (64 - m.length % 64)) = hL ws (blN m bl x) n := by
  obtain ⟨r, hr⟩ : ∃ r, m.length % 64 = r := ⟨_, rfl⟩
  have hr' : r < 64 := by omega
  unfold blN hL
  rw [hr, List.take_append, List.drop_append, wl_len, hw, List.take_of_length_le (by rw [wl_len]; omega), List.drop_eq_nil_of_le (by rw [wl_len]; omega), List.nil_append,
    show 8 + r - 8 = r by omega, show 8 + r + min x.length (64 - r) - 8 = r + min x.length (64 - r) by omega, List.take_append, List.drop_append, dg_length, hb,
    show r - 64 = 0 by omega, show r + min x.length (64 - r) - 64 = 0 by omega, List.take_zero, List.append_nil, List.drop_zero, dg_append, dg_append]
  have e1 : (dg bl).take r = dg (bl.take r) := by simp [dg, List.map_take]
  have e2 : (dg bl).drop (r + min x.length (64 - r)) = dg (bl.drop (r + min x.length (64 - r))) := by simp [dg, List.map_drop]
  rw [e1, e2]
  simp only [List.append_assoc]
theorem hs_step {m bl : List Int} {ws : R8} (hs : HS m ws bl) (x : List Int) (hx : Byt x) (hne : 0 < x.length) :
    ((m.length + min x.length (64 - m.length % 64)) % 64 ≠ 0 → HS (m ++ x.take (min x.length (64 - m.length % 64))) ws (blN m bl x)) ∧
    ((m.length + min x.length (64 - m.length % 64)) % 64 = 0 → HS (m ++ x.take (min x.length (64 - m.length % 64))) (blk KT ws (blN m bl x)) (blN m bl x)) := by
  obtain ⟨hw, hlen, hby, htop⟩ := hs
  obtain ⟨r, hr⟩ : ∃ r, m.length % 64 = r := ⟨_, rfl⟩
  obtain ⟨q, hq⟩ : ∃ q, m.length / 64 = q := ⟨_, rfl⟩
  have hm : m.length = 64 * q + r := by omega
  have hr' : r < 64 := by omega
  have hl := blN_len (m := m) x hlen
  have hb := blN_byt (m := m) hby hx
  unfold blN at hl hb ⊢
  rw [hr] at hl hb htop ⊢
  rw [hq] at htop hw
  obtain ⟨c, hc⟩ : ∃ c, min x.length (64 - r) = c := ⟨_, rfl⟩
  have hc1 : c ≤ 64 - r := by omega
  have hc2 : c ≤ x.length := by omega
  have hc3 : x.take (64 - r) = x.take c := by
    by_cases h : x.length ≤ 64 - r
    · rw [List.take_of_length_le h, List.take_of_length_le (by omega)]
    · rw [show c = 64 - r by omega]
  rw [hc, hc3] at hl hb ⊢
  have hml : (m ++ x.take c).length = 64 * q + r + c := by rw [List.length_append, List.length_take, hm]; omega
  have hfront : (bl.take r ++ x.take c ++ bl.drop (r + c)).take (r + c) = (m ++ x.take c).drop (64 * q) := by
    have h1 : (bl.take r ++ x.take c).length = r + c := by rw [List.length_append, List.length_take, List.length_take]; omega
    rw [List.take_append, h1, Nat.sub_self, List.take_zero, List.append_nil, List.take_of_length_le (by omega), htop, List.drop_append, show 64 * q - m.length = 0 by omega, List.drop_zero]
  constructor
  · intro hne0
    have h1 : r + c < 64 := by omega
    refine ⟨?_, hl, hb, ?_⟩
    · rw [hml, show (64 * q + r + c) / 64 = q by omega, wsn_app _ (by omega)]
      exact hw
    · rw [hml, show (64 * q + r + c) / 64 = q by omega, show (64 * q + r + c) % 64 = r + c by omega]
      exact hfront
  · intro he0
    have h1 : r + c = 64 := by omega
    refine ⟨?_, hl, hb, ?_⟩
    · rw [hml, show (64 * q + r + c) / 64 = q + 1 by omega]
      unfold wsn
      rw [wsn_app _ (by omega), hw]
      congr 1
      unfold chunk
      rw [h1] at hfront hl ⊢
      rw [← hfront, List.take_take, Nat.min_self]
      exact (List.take_of_length_le (by rw [hl]; exact Nat.le_refl _)).symm
    · rw [hml, show (64 * q + r + c) / 64 = q + 1 by omega, show (64 * q + r + c) % 64 = 0 by omega, List.take_zero, List.drop_eq_nil_of_le (by rw [hml]; omega)]
/-! ### What stands behind -/
def lb (n : Int) (j : Nat) : Int := n * 8 / 2 ^ (8 * j) % 256
def beL (n : Int) (i : Nat) : List Int := (List.range i).map fun i => lb n (7 - i)
theorem beL_len (n : Int) (i : Nat) : (beL n i).length = i := by simp [beL]
theorem beL_succ (n : Int) (i : Nat) : beL n (i + 1) = beL n i ++ [lb n (7 - i)] := by
  unfold beL
  rw [List.range_succ, List.map_append]
  rfl
theorem lb_byt (n : Int) (j : Nat) : 0 ≤ lb n j ∧ lb n j < 256 := by
  unfold lb
  omega
theorem beL_byt (n : Int) (i : Nat) : Byt (beL n i) := fun x hx => by
  unfold beL at hx
  obtain ⟨j, _, rfl⟩ := List.mem_map.1 hx
  exact lb_byt n _
def padN (n : Nat) : Nat := (120 - (n + 1) % 64) % 64
def padL (n : Nat) : List Int := List.replicate (padN n) 0 ++ beL n 8
def pad (m : List Int) : List Int := m ++ [128] ++ padL m.length
theorem padL_len (n : Nat) : (padL n).length = padN n + 8 := by
  unfold padL
  rw [List.length_append, List.length_replicate, beL_len]
theorem pad_len (m : List Int) : (pad m).length = m.length + 1 + padN m.length + 8 ∧ (pad m).length % 64 = 0 := by
  have h : (pad m).length = m.length + 1 + padN m.length + 8 := by
    unfold pad
    rw [List.length_append, List.length_append, padL_len]
    simp
    omega
  refine ⟨h, ?_⟩
  rw [h]
  unfold padN
  omega
theorem padL_byt (n : Nat) : Byt (padL n) := Byt.append (fun x hx => by have := List.eq_of_mem_replicate hx; omega) (beL_byt _ _)
theorem pad_byt {m : List Int} (h : Byt m) : Byt (pad m) := (h.append (fun x hx => by simp at hx; omega)).append (padL_byt _)
def db (ws : R8) (i : Nat) : Int := wi (ws.l.getD (i / 4) 0 >>> (24 - 8 * (i % 4))) % 256
def dig (ws : R8) : List Int := (List.range 32).map (db ws)
theorem dig_len (ws : R8) : (dig ws).length = 32 := by simp [dig]
theorem dig_byt (ws : R8) : Byt (dig ws) := fun x hx => by
  unfold dig at hx
  obtain ⟨j, _, rfl⟩ := List.mem_map.1 hx
  unfold db
  omega
theorem dig_set {ws : R8} {i : Nat} (h : i < 32) : ((dig ws).take i ++ zd.drop i).set i (db ws i) = (dig ws).take (i + 1) ++ zd.drop (i + 1) := by
  have h1 : ((dig ws).take i).length = i := by rw [List.length_take, dig_len]; omega
  rw [List.set_append_right _ _ (by omega), h1, Nat.sub_self, List.drop_eq_getElem_cons (by rw [zd_length]; exact h), List.set_cons_zero, List.take_add_one, List.append_assoc]
  congr 1
  rw [List.getElem?_eq_getElem (by rw [dig_len]; exact h)]
  simp [dig]
/-- A sum. -/
def shaP (m : List Int) : List Int := dig (wsn (pad m) ((pad m).length / 64))
theorem shaP_len (m : List Int) : (shaP m).length = 32 := dig_len _
theorem shaP_byt (m : List Int) : Byt (shaP m) := dig_byt _
theorem shr_be {n : Int} (i : Nat) (h0 : 0 ≤ n) (h1 : n < 1099511627776) (hi : i < 8) : IntKind.u8.wrap ((n * 8).fdiv (2 ^ (min (56 - 8 * (i : Int)).toNat IntKind.u64.bits))) = lb n (7 - i) := by
  have h2 : min (56 - 8 * (i : Int)).toNat IntKind.u64.bits = 8 * (7 - i) := by
    show min _ 64 = _
    omega
  rw [h2, IntKind.wrap_u8, Int.fdiv_eq_ediv_of_nonneg _ (Int.pow_nonneg (by omega))]
  rfl
theorem shr_be' {n : Int} (j : Nat) (h0 : 0 ≤ n) (h1 : n < 1099511627776) (hi : j < 8) : IntKind.u8.wrap ((n * 8).fdiv (2 ^ (min (8 * (j : Int)).toNat IntKind.u64.bits))) = lb n j := by
  have h2 : min (8 * (j : Int)).toNat IntKind.u64.bits = 8 * j := by
    show min _ 64 = _
    omega
  rw [h2, IntKind.wrap_u8, Int.fdiv_eq_ediv_of_nonneg _ (Int.pow_nonneg (by omega))]
  rfl
theorem shr_db (ws : R8) {i : Nat} (h : i < 32) : (wi (ws.l.getD (i / 4) 0)).fdiv (2 ^ (min (24 - 8 * ((i : Int) % 4)).toNat IntKind.u32.bits)) = wi (ws.l.getD (i / 4) 0 >>> (24 - 8 * (i % 4))) := by
  rw [show (24 - 8 * ((i : Int) % 4)) = ((24 - 8 * (i % 4) : Nat) : Int) by omega]
  exact w_shr _ _ (by omega)
theorem conv_db (ws : R8) (i : Nat) : IntKind.u8.wrap (wi (ws.l.getD (i / 4) 0 >>> (24 - 8 * (i % 4)))) = db ws i := by
  rw [IntKind.wrap_u8]
  rfl
theorem tail_set {n : Int} {p i : Nat} (hp : p < 64) (hi : i < 8) : (List.replicate p (0 : Int) ++ beL n i ++ List.replicate (72 - p - i) 0).set (p + i) (lb n (7 - i)) = List.replicate p 0 ++ beL n (i + 1) ++ List.replicate (72 - p - (i + 1)) 0 := by
  have h1 : (List.replicate p (0 : Int) ++ beL n i).length = p + i := by rw [List.length_append, List.length_replicate, beL_len]
  rw [List.set_append_right _ _ (by omega), h1, Nat.sub_self, show 72 - p - i = (72 - p - (i + 1)) + 1 by omega, List.replicate_succ, List.set_cons_zero, beL_succ]
  simp only [List.append_assoc, List.singleton_append]
theorem dz0 (ws : R8) : dg ((dig ws).take 0 ++ zd.drop 0) = dg zd := by rw [List.take_zero, List.drop_zero, List.nil_append]
theorem wl_getN {l : List Wd} {i : Nat} (h : i < l.length) : (wl l)[i]? = some (wv (l.getD i 0)) := by
  have := wl_get (l := l) (i := (i : Int)) (by omega) (by omega)
  rw [Int.toNat_natCast] at this
  rw [this]
  unfold nw
  rw [Int.toNat_natCast]
theorem abc : shaP [97, 98, 99] = [186, 120, 22, 191, 143, 1, 207, 234, 65, 65, 64, 222, 93, 174, 34, 35, 176, 3, 97, 163, 150, 23, 122, 156, 180, 16, 255, 97, 242, 0, 21, 173] := by decide +kernel
theorem shr_be2 {n : Int} (k : Nat) (h0 : 0 ≤ n) (h1 : n < 1099511627776) (hi : k < 8) : IntKind.u8.wrap ((n * 8).fdiv (2 ^ (min (8 * (7 - (k : Int))).toNat IntKind.u64.bits))) = lb n (7 - k) := by
  rw [show (8 * (7 - (k : Int))) = 8 * ((7 - k : Nat) : Int) by omega]
  exact shr_be' (7 - k) h0 h1 (by omega)
end Go.Sx
