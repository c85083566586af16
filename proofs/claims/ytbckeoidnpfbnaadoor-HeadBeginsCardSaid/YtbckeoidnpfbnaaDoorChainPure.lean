/- Lists of signed heads; what a chain tells: plain facts. -/
import Derived.Test.YtbckeoidnpfbnaaDoorHeadB
set_option linter.unusedVariables false
set_option linter.unusedSimpArgs false
set_option maxRecDepth 100000
namespace Go.Proofs.YtbckeoidnpfbnaaDoor
open Go.Sx
structure Sg where
  e : Int
  r : List Int
  p : List Int
  g : List Int
  hr : r.length = 32
  hp : p.length = 32
  hg : g.length = 32
  hrb : Byt r
  hpb : Byt p
  hgb : Byt g
def sgc (x : Sg) : List Value := sgL x.e x.r x.p x.g
def sgs (l : List Sg) : List Value := l.flatMap sgc
theorem sgc_len (x : Sg) : (sgc x).length = 97 := sgL_len x.hr x.hp x.hg
theorem sgs_len : ∀ l : List Sg, (sgs l).length = l.length * 97
  | [] => rfl
  | v :: l => by
    have := sgs_len l
    unfold sgs at *
    rw [List.flatMap_cons, List.length_append, this, sgc_len, List.length_cons]
    omega
theorem sgs_app (a b : List Sg) : sgs (a ++ b) = sgs a ++ sgs b := by simp [sgs]
theorem sgs_one (v : Sg) : sgs [v] = sgc v := by simp [sgs]
theorem sgs_two (v u : Sg) : sgs [v, u] = sgc v ++ sgc u := by simp [sgs]
theorem sgs_take : ∀ (l : List Sg) (k : Nat), (sgs l).take (k * 97) = sgs (l.take k)
  | [], k => by simp [sgs]
  | v :: l, 0 => by simp [sgs]
  | v :: l, k + 1 => by
    have := sgs_take l k
    unfold sgs at *
    rw [List.flatMap_cons, List.take_succ_cons, List.flatMap_cons, ← this, List.take_append, sgc_len, List.take_of_length_le (by rw [sgc_len]; omega)]
    congr 2
    omega
theorem sgs_drop : ∀ (l : List Sg) (k : Nat), (sgs l).drop (k * 97) = sgs (l.drop k)
  | [], k => by simp [sgs]
  | v :: l, 0 => by simp [sgs]
  | v :: l, k + 1 => by
    have := sgs_drop l k
    unfold sgs at *
    rw [List.flatMap_cons, List.drop_succ_cons, ← this, List.drop_append, sgc_len, List.drop_eq_nil_of_le (by rw [sgc_len]; omega), List.nil_append]
    congr 1
    omega
theorem zd_byt' : Byt zd := zd_byt
def s0 : Sg := ⟨0, zd, zd, zd, zd_length, zd_length, zd_length, zd_byt, zd_byt, zd_byt⟩
theorem sgs_get {l : List Sg} {i : Nat} (h : i < l.length) (j : Nat) (hj : j < 97) : (sgs l)[i * 97 + j]? = (sgc (l.getD i s0))[j]? := by
  have h1 := sgs_drop l i
  have h2 : (sgs l)[i * 97 + j]? = ((sgs l).drop (i * 97))[j]? := by rw [List.getElem?_drop]
  rw [h2, h1, List.drop_eq_getElem_cons h]
  unfold sgs
  rw [List.flatMap_cons, List.getElem?_append_left (by rw [sgc_len]; exact hj), List.getD_eq_getElem?_getD, List.getElem?_eq_getElem h]
  rfl
theorem sgs_v {l : List Sg} {i : Nat} (h : i < l.length) : ∀ k u, (sgc (l.getD i s0))[k]? = some u → (sgs l)[((i : Nat) : Int).toNat * (96 + 1) + k]? = some u := by
  intro k u hk
  rw [Int.toNat_natCast, sgs_get h k (by have := (List.getElem?_eq_some_iff.1 hk).1; rw [sgc_len] at this; exact this)]
  exact hk
theorem sgs_e {l : List Sg} {i : Nat} (h : i < l.length) : (sgs l)[((i : Nat) : Int).toNat * (96 + 1)]? = some (.int .i64 (l.getD i s0).e) := by
  rw [Int.toNat_natCast, show i * (96 + 1) = i * 97 + 0 from rfl, sgs_get h 0 (by omega)]
  rfl
theorem sgs_e0 {l : List Sg} {i : Nat} (h : i < l.length) : (sgs l)[((i : Nat) : Int).toNat * (96 + 1) + 0 + 0]? = some (.int .i64 (l.getD i s0).e) := by
  rw [Nat.add_zero, Nat.add_zero]
  exact sgs_e h
theorem sg_prev {e : Int} {r p g : List Int} (hr : r.length = 32) (hp : p.length = 32) : ∀ j, j < (dg p).length → (sgL e r p g)[33 + j]? = (dg p)[j]? := by
  intro j hj
  rw [dg_length, hp] at hj
  unfold sgL
  rw [List.getElem?_append_left (by rw [hdL_len hr hp]; omega)]
  exact hd_prev hr j (by rw [dg_length]; omega)
theorem sgs_p {l : List Sg} {i : Nat} (h : i < l.length) : ∀ k u, (dg (l.getD i s0).p)[k]? = some u → (sgs l)[((i : Nat) : Int).toNat * (96 + 1) + 0 + 33 + k]? = some u := by
  intro k u hk
  have hk2 := (List.getElem?_eq_some_iff.1 hk).1
  have := sgs_v h (33 + k) u (by unfold sgc; rw [sg_prev (l.getD i s0).hr (l.getD i s0).hp k hk2]; exact hk)
  rw [← Nat.add_assoc] at this
  rw [Nat.add_zero]
  exact this
theorem sgs_h {l : List Sg} {i : Nat} (h : i < l.length) : ∀ k u, (hdL (l.getD i s0).e (l.getD i s0).r (l.getD i s0).p)[k]? = some u → (sgs l)[((i : Nat) : Int).toNat * (96 + 1) + 0 + k]? = some u := by
  intro k u hk
  have hk2 := (List.getElem?_eq_some_iff.1 hk).1
  have := sgs_v h k u (by
    have := sg_hd (e := (l.getD i s0).e) (r := (l.getD i s0).r) (p := (l.getD i s0).p) (g := (l.getD i s0).g) (l.getD i s0).hr (l.getD i s0).hp k hk2
    rw [Nat.zero_add] at this
    unfold sgc
    rw [this]; exact hk)
  rw [Nat.add_zero]
  exact this
theorem sgs_1 (l : List Sg) : ∀ u ∈ sgs l, u.oneCell' = true := by
  intro u hu
  obtain ⟨v, _, hv⟩ := List.mem_flatMap.1 hu
  exact sgL_one _ _ _ _ u hv
/-! ### Chains -/
def chkS (s : ByteArray) (x : Sg) : Int := chk s x.e x.r x.p x.g
def dgP (x : Sg) : List Int := shaP (lay x.e x.r x.p)
def prevAt (l : List Sg) : Nat → List Int
  | 0 => zd
  | k + 1 => dgP (l.getD k s0)
theorem prevAt_len (l : List Sg) : ∀ k, (prevAt l k).length = 32
  | 0 => zd_length
  | k + 1 => shaP_len _
def codeAt (s : ByteArray) (l : List Sg) (k : Nat) : Int :=
  if chkS s (l.getD k s0) ≠ 0 then chkS s (l.getD k s0) else if (k : Int) + 1 = (l.getD k s0).e ∧ prevAt l k = (l.getD k s0).p then 0 else 82
/-- The first one that is not zero. -/
def chainN (f : Nat → Int) : Nat → Int
  | 0 => 0
  | n + 1 => if chainN f n ≠ 0 then chainN f n else f n
theorem chainN_go {f : Nat → Int} {n : Nat} (h : chainN f n = 0) : chainN f (n + 1) = f n := if_neg (fun h1 => h1 h)
theorem chainN_keep {f : Nat → Int} {n : Nat} (h : chainN f n ≠ 0) : ∀ d, chainN f (n + d) = chainN f n
  | 0 => rfl
  | d + 1 => by
    have h1 := chainN_keep h d
    show (if chainN f (n + d) ≠ 0 then chainN f (n + d) else f (n + d)) = _
    rw [if_pos (by rw [h1]; exact h), h1]
theorem chainN_hit {f : Nat → Int} {n k : Nat} (hk : k < n) (h0 : chainN f k = 0) (h1 : f k ≠ 0) : chainN f n = f k := by
  have h2 := chainN_go h0
  have h3 := chainN_keep (n := k + 1) (by rw [h2]; exact h1) (n - (k + 1))
  rw [show k + 1 + (n - (k + 1)) = n by omega, h2] at h3
  exact h3
theorem chainN_le {f : Nat → Int} {n k : Nat} (hk : k ≤ n) (h : chainN f n = 0) : chainN f k = 0 := by
  by_cases h1 : chainN f k = 0
  · exact h1
  · have := chainN_keep h1 (n - k)
    rw [show k + (n - k) = n by omega, h] at this
    exact this.symm
theorem chainN_at {f : Nat → Int} {n k : Nat} (hk : k < n) (h : chainN f n = 0) : f k = 0 := by
  have h1 := chainN_le (show k + 1 ≤ n by omega) h
  rwa [chainN_go (chainN_le (show k ≤ n by omega) h)] at h1
theorem chainN_same {f f' : Nat → Int} : ∀ {n : Nat}, (∀ k, k < n → f k = f' k) → chainN f n = chainN f' n
  | 0, _ => rfl
  | n + 1, h => by
    have h1 := chainN_same (n := n) (fun k hk => h k (by omega))
    show (if chainN f n ≠ 0 then chainN f n else f n) = (if chainN f' n ≠ 0 then chainN f' n else f' n)
    rw [h1, h n (by omega)]
def chainP (s : ByteArray) (l : List Sg) : Int := if okK s = true then chainN (codeAt s l) l.length else 80
theorem chk_zero {s : ByteArray} {e : Int} {r p g : List Int} (h : chk s e r p g = 0) : okK s = true ∧ okE e = true := by
  unfold chk at h
  by_cases h1 : okK s = true ∧ okE e = true
  · exact h1
  · rw [if_neg h1] at h
    exact absurd h (by decide)
theorem code_chk {s : ByteArray} {l : List Sg} {k : Nat} (h : chkS s (l.getD k s0) ≠ 0) : codeAt s l k = chkS s (l.getD k s0) := if_pos h
theorem code_82 {s : ByteArray} {l : List Sg} {k : Nat} (h : chkS s (l.getD k s0) = 0) (h2 : ¬ ((k : Int) + 1 = (l.getD k s0).e ∧ prevAt l k = (l.getD k s0).p)) : codeAt s l k = 82 := by
  unfold codeAt
  rw [if_neg (fun h1 => h1 h), if_neg h2]
theorem code_0 {s : ByteArray} {l : List Sg} {k : Nat} (h : chkS s (l.getD k s0) = 0) (h2 : (k : Int) + 1 = (l.getD k s0).e ∧ prevAt l k = (l.getD k s0).p) : codeAt s l k = 0 := by
  unfold codeAt
  rw [if_neg (fun h1 => h1 h), if_pos h2]
theorem code_ok {s : ByteArray} {l : List Sg} {k : Nat} (h : codeAt s l k = 0) : chkS s (l.getD k s0) = 0 ∧ (k : Int) + 1 = (l.getD k s0).e ∧ prevAt l k = (l.getD k s0).p := by
  unfold codeAt at h
  by_cases h1 : chkS s (l.getD k s0) = 0
  · rw [if_neg (fun h2 => h2 h1)] at h
    by_cases h2 : (k : Int) + 1 = (l.getD k s0).e ∧ prevAt l k = (l.getD k s0).p
    · exact ⟨h1, h2⟩
    · rw [if_neg h2] at h
      exact absurd h (by decide)
  · rw [if_pos h1] at h
    exact absurd h h1
theorem take_s {l : List Sg} {i : Nat} (h : i < l.length) : l.take (i + 1) = l.take i ++ [l.getD i s0] := by
  rw [List.take_add_one, List.getD_eq_getElem?_getD, List.getElem?_eq_getElem h]
  rfl
end Go.Proofs.YtbckeoidnpfbnaaDoor
