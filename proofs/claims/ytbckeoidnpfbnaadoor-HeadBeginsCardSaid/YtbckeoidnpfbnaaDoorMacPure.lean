/- What a code of layer 3 is: plain facts. -/
import Derived.Test.YtbckeoidnpfbnaaDoorShaPure2
set_option linter.unusedVariables false
set_option linter.unusedSimpArgs false
namespace Go.Sx
def xb (p x : Int) : Int := bits2 .xor .u8 x p
theorem bits8 (op : BinOp) (x y : Int) : 0 ≤ bits2 op .u8 x y ∧ bits2 op .u8 x y < 256 := by
  have : ∀ n : Int, 0 ≤ IntKind.u8.wrap n ∧ IntKind.u8.wrap n < 256 := fun n => by
    rw [IntKind.wrap_u8]
    omega
  unfold bits2
  cases op <;> exact this _
def kx (p : Int) (k : List Int) : List Int := k.map (xb p)
theorem kx_len (p : Int) (k : List Int) : (kx p k).length = k.length := by simp [kx]
theorem kx_byt (p : Int) (k : List Int) : Byt (kx p k) := fun x hx => by
  unfold kx at hx
  obtain ⟨y, _, rfl⟩ := List.mem_map.1 hx
  exact bits8 _ _ _
def kk (key : List Int) : List Int := if 64 < key.length then shaP key else key
def kp (key : List Int) : List Int := kk key ++ List.replicate (64 - (kk key).length) 0
theorem kk_len (key : List Int) : (kk key).length ≤ 64 := by
  unfold kk
  split
  · rw [shaP_len]; omega
  · omega
theorem kp_len (key : List Int) : (kp key).length = 64 := by
  have := kk_len key
  unfold kp
  rw [List.length_append, List.length_replicate]
  omega
theorem kk_byt {key : List Int} (h : Byt key) : Byt (kk key) := by
  unfold kk
  split
  · exact shaP_byt _
  · exact h
theorem kp_byt {key : List Int} (h : Byt key) : Byt (kp key) := (kk_byt h).append (fun x hx => by have := List.eq_of_mem_replicate hx; omega)
/-- A code. -/
def macP (key b : List Int) : List Int := shaP (kx 92 (kp key) ++ shaP (kx 54 (kp key) ++ b))
theorem macP_len (key b : List Int) : (macP key b).length = 32 := shaP_len _
theorem macP_byt (key b : List Int) : Byt (macP key b) := shaP_byt _
theorem kx_set {p : Int} {k : List Int} {i : Nat} (h : i < k.length) : ((kx p k).take i ++ k.drop i).set i (xb p (k.getD i 0)) = (kx p k).take (i + 1) ++ k.drop (i + 1) := by
  have h1 : ((kx p k).take i).length = i := by rw [List.length_take, kx_len]; omega
  rw [List.set_append_right _ _ (by omega), h1, Nat.sub_self, List.drop_eq_getElem_cons h, List.set_cons_zero, List.take_add_one, List.append_assoc]
  congr 1
  rw [List.getElem?_eq_getElem (by rw [kx_len]; exact h), List.getD_eq_getElem?_getD, List.getElem?_eq_getElem h]
  simp [kx]
theorem kx_next {p : Int} {k : List Int} {i : Nat} (h : i < k.length) : kx p (k.take (i + 1)) = kx p (k.take i) ++ [xb p (k.getD i 0)] := by
  rw [List.take_add_one, List.getD_eq_getElem?_getD, List.getElem?_eq_getElem h]
  unfold kx
  rw [List.map_append]
  rfl
theorem take_setK {k z : List Int} {i : Nat} (h : i < k.length) (hz : i < z.length) : (k.take i ++ z.drop i).set i (k.getD i 0) = k.take (i + 1) ++ z.drop (i + 1) := by
  have h1 : (k.take i).length = i := by rw [List.length_take]; omega
  rw [List.set_append_right _ _ (by omega), h1, Nat.sub_self, List.drop_eq_getElem_cons hz, List.set_cons_zero, List.take_add_one, List.append_assoc, List.getElem?_eq_getElem h, List.getD_eq_getElem?_getD, List.getElem?_eq_getElem h]
  rfl
theorem kp_copy {key : List Int} (h : key.length ≤ 64) : key.take 64 ++ (List.replicate 64 (0 : Int)).drop (0 + min key.length 64) = kp key := by
  unfold kp kk
  rw [if_neg (by omega), List.take_of_length_le h, List.drop_replicate, Nat.zero_add, Nat.min_eq_left h]
theorem kp_self {key : List Int} (h : 64 < key.length) : kp (shaP key) = kp key := by
  unfold kp kk
  rw [if_pos h, if_neg (by rw [shaP_len]; omega)]
theorem kp_zero {key : List Int} {j : Nat} (h : key.length + j ≤ 64) : kp (key ++ List.replicate j 0) = kp key := by
  unfold kp kk
  rw [if_neg (by rw [List.length_append, List.length_replicate]; omega), if_neg (by omega), List.append_assoc, List.length_append, List.length_replicate, List.replicate_append_replicate]
  congr 2
  omega
theorem or8 {x y : Int} (hx : 0 ≤ x ∧ x < 256) (hy : 0 ≤ y ∧ y < 256) : bits2 .or .u8 x y = 0 ↔ x = 0 ∧ y = 0 := by
  obtain ⟨a, rfl⟩ := Int.eq_ofNat_of_zero_le hx.1
  obtain ⟨b, rfl⟩ := Int.eq_ofNat_of_zero_le hy.1
  have ha : a < 256 := by omega
  have hb : b < 256 := by omega
  show IntKind.u8.wrap ((BitVec.ofInt 8 (a : Int) ||| BitVec.ofInt 8 (b : Int)).toNat : Int) = 0 ↔ _
  rw [BitVec.ofInt_natCast, BitVec.ofInt_natCast, BitVec.toNat_or, BitVec.toNat_ofNat, BitVec.toNat_ofNat, Nat.mod_eq_of_lt (show a < 2 ^ 8 from ha), Nat.mod_eq_of_lt (show b < 2 ^ 8 from hb)]
  have h1 : a ||| b < 256 := Nat.or_lt_two_pow (n := 8) ha hb
  rw [Go.IntWalk.u8_in _ (by omega)]
  have h2 : a ||| b = 0 ↔ a = 0 ∧ b = 0 := Nat.or_eq_zero_iff
  omega
theorem xor8 {x y : Int} (hx : 0 ≤ x ∧ x < 256) (hy : 0 ≤ y ∧ y < 256) : bits2 .xor .u8 x y = 0 ↔ x = y := by
  obtain ⟨a, rfl⟩ := Int.eq_ofNat_of_zero_le hx.1
  obtain ⟨b, rfl⟩ := Int.eq_ofNat_of_zero_le hy.1
  have ha : a < 256 := by omega
  have hb : b < 256 := by omega
  show IntKind.u8.wrap ((BitVec.ofInt 8 (a : Int) ^^^ BitVec.ofInt 8 (b : Int)).toNat : Int) = 0 ↔ _
  rw [BitVec.ofInt_natCast, BitVec.ofInt_natCast, BitVec.toNat_xor, BitVec.toNat_ofNat, BitVec.toNat_ofNat, Nat.mod_eq_of_lt (show a < 2 ^ 8 from ha), Nat.mod_eq_of_lt (show b < 2 ^ 8 from hb)]
  have h1 : a ^^^ b < 256 := Nat.xor_lt_two_pow (n := 8) ha hb
  rw [Go.IntWalk.u8_in _ (by omega)]
  have h2 : a ^^^ b = 0 ↔ a = b := by
    constructor
    · intro h
      have h3 := congrArg (fun z => z ^^^ b) h
      simpa [Nat.xor_assoc] using h3
    · rintro rfl
      exact Nat.xor_self _
  omega
def jefe : List Int := [74, 101, 102, 101]
def what : List Int := [119, 104, 97, 116, 32, 100, 111, 32, 121, 97, 32, 119, 97, 110, 116, 32, 102, 111, 114, 32, 110, 111, 116, 104, 105, 110, 103, 63]
theorem jefe_mac : macP jefe what = [91, 220, 193, 70, 191, 96, 117, 78, 106, 4, 36, 38, 8, 149, 117, 199, 90, 0, 63, 8, 157, 39, 57, 131, 157, 236, 88, 185, 100, 236, 56, 67] := by decide +kernel
theorem dgD {l : List Int} {i : Nat} (h : i < l.length) : (dg l)[i]? = some (.int .u8 (l.getD i 0)) := by
  unfold dg
  rw [List.getElem?_map, List.getElem?_eq_getElem h, List.getD_eq_getElem?_getD, List.getElem?_eq_getElem h]
  rfl
theorem sub4 (A B C D : Mem) : List.Sublist (A ++ (B ++ C)) ((A ++ B) ++ (C ++ D)) := by
  rw [← List.append_assoc, ← List.append_assoc]
  exact List.sublist_append_left _ _
theorem take_two {a b : List Int} {i : Nat} (ha : i < a.length) (hb : i < b.length) : a.take (i + 1) = b.take (i + 1) ↔ a.take i = b.take i ∧ a.getD i 0 = b.getD i 0 := by
  rw [List.take_add_one, List.take_add_one, List.getElem?_eq_getElem ha, List.getElem?_eq_getElem hb, List.getD_eq_getElem?_getD, List.getD_eq_getElem?_getD, List.getElem?_eq_getElem ha, List.getElem?_eq_getElem hb]
  constructor
  · intro h
    have h1 : (a.take i).length = (b.take i).length := by rw [List.length_take, List.length_take]; omega
    have := List.append_inj h h1
    exact ⟨this.1, by simpa using this.2⟩
  · rintro ⟨h1, h2⟩
    rw [h1]
    have h2' : a[i] = b[i] := h2
    rw [h2']
theorem kp_done {kk0 key : List Int} (h : kk key = kk0) : kk0.take kk0.length ++ (List.replicate 64 (0 : Int)).drop kk0.length = kp key := by
  unfold kp
  rw [h, List.take_length, List.drop_replicate]
theorem macP_self {key : List Int} (b : List Int) (h : 64 < key.length) : macP (shaP key) b = macP key b := by
  unfold macP
  rw [kp_self h]
theorem macP_zero {key : List Int} (b : List Int) {j : Nat} (h : key.length + j ≤ 64) : macP (key ++ List.replicate j 0) b = macP key b := by
  unfold macP
  rw [kp_zero h]
theorem kp_in {key : List Int} {i : Nat} (h : key.length ≤ 64) (hi : i < key.length) : (kp key).getD i 0 = key.getD i 0 := by
  unfold kp kk
  rw [if_neg (by omega), List.getD_eq_getElem?_getD, List.getElem?_append_left hi, ← List.getD_eq_getElem?_getD]
theorem kp_out {key : List Int} {i : Nat} (h : key.length ≤ 64) (hi : key.length ≤ i) : (kp key).getD i 0 = 0 := by
  unfold kp kk
  rw [if_neg (by omega), List.getD_eq_getElem?_getD, List.getElem?_append_right hi, List.getElem?_replicate]
  split <;> rfl
end Go.Sx
