/- Is what is saved right? -/
import Derived.Test.YtcdenfkbhefbbaaVaultChk
set_option linter.unusedVariables false
set_option linter.unusedSimpArgs false
set_option maxRecDepth 100000
namespace Go.Proofs.Ytcdenfkbhefbbaa
open Go.Sx
theorem bnT {b : Bool} (h : (!b) = true) : b = false := by simpa using h
theorem bnF {b : Bool} (h : (!b) = false) : b = true := by simpa using h
instance (s : Sv) : Decidable (baseP s) := by unfold baseP; exact inferInstance
theorem bs3 (a b c : Int) (w : World) : (Instr.buildSlice 22 3 [(0, .int .i64 a), (1, .int .i64 b), (2, .int .i64 c)].toArray).run Try.prog w = .ok (.slice (some ⟨w.heap.size, 0, none⟩) 3 3) (w.alloc (row 3 (ints [a, b, c]))) := by kernel_rfl
/-- What is known of a record's lists. -/
def rcA (p : RcV) : Fact := andF (clA p.1.2.2.2.1.2.2.2.2 p.2.1 p.2.2.1) (clA p.1.2.2.2.2.2.1.2.2.1 p.2.2.2.1 p.2.2.2.2)
theorem clA_0 {w : World} : FA w (clA ([], []) spN spN) := .and (.slc (.inl ⟨rfl, rfl, _, _, rfl⟩)) (.slc (.inl ⟨rfl, rfl, _, _, rfl⟩))
theorem RL_A {w : World} {t v : Int} {sn : Sn} {a b : Sp} {es : List EnV} {gl : List Sg} (f1 : FA w (clA sn.2.2.1 a b)) (f2 : FA w (allF (es.map enA))) : ∀ p ∈ RL t v sn a b es gl, FA w (rcA p) := by
  intro p hp
  unfold RL at hp
  simp only [List.mem_append, List.mem_cons, List.mem_map] at hp
  rcases hp with (rfl | hp) | ⟨q, hq, rfl⟩ | ⟨q, hq, rfl⟩
  · exact .and clA_0 clA_0
  · by_cases hs : sn = sn0
    · rw [if_pos hs] at hp
      cases hp
    · rw [if_neg hs] at hp
      obtain rfl := List.mem_singleton.1 hp
      exact .and clA_0 f1
  · exact .and (f2.of (List.mem_map.2 ⟨q, hq, rfl⟩)) clA_0
  · exact .and clA_0 clA_0
/-- What laying a record answers. -/
def putE (x : Rec) : Int := match encTs (recC.tk x) with | .ok _ => 0 | .error k => k
theorem putE_ok {x : Rec} : putE x = 0 ↔ okR x = true := by
  unfold putE okR
  cases h : encTs (recC.tk x) with
  | ok M => exact ⟨fun _ => rfl, fun _ => rfl⟩
  | error k => exact ⟨fun h2 => by rcases encTs_err h with h1 | h1 <;> (subst h1; cases h2), fun h2 => by cases h2⟩
theorem rcA_f {w : World} {p : RcV} (h : FA w (rcA p)) : ∀ f ∈ (clF (.slice p.2.1.1 p.1.2.2.2.1.2.2.2.2.1.length p.2.1.2) (.slice p.2.2.1.1 p.1.2.2.2.1.2.2.2.2.2.length p.2.2.1.2) p.1.2.2.2.1.2.2.2.2 ++ clF (.slice p.2.2.2.1.1 p.1.2.2.2.2.2.1.2.2.1.1.length p.2.2.2.1.2) (.slice p.2.2.2.2.1 p.1.2.2.2.2.2.1.2.2.1.2.length p.2.2.2.2.2) p.1.2.2.2.2.2.1.2.2.1), f.p w ∧ ∀ k, f.fp k → k < w.heap.size := by
  intro f hf
  simp only [clF, List.mem_append, List.mem_cons, List.not_mem_nil, or_false] at hf
  rcases hf with (rfl | rfl) | rfl | rfl
  · exact h.l.l
  · exact h.l.r
  · exact h.r.l
  · exact h.r.r
theorem put_rec (p : RcV) (w : World) (h : FA w (rcA p)) : Calls Try.prog 21 #[.agg (rcW p).toArray] w fun e w' => ∃ v, e = .returned (.tuple #[v, .int .i64 (putE p.1)]) ∧ Fr [] w w' := by
  refine (putrecord_w _ _ _ _ p.1 w (rcA_f h) (by decide)).mono ?_
  rintro e w' ⟨hfr, hR⟩
  unfold putE
  cases h1 : encTs (recC.tk p.1) with
  | ok M =>
    rw [h1] at hR
    obtain ⟨a, n, c, rfl, _⟩ := hR
    exact ⟨_, rfl, hfr⟩
  | error k =>
    rw [h1] at hR
    exact ⟨_, hR, hfr⟩
/-! ### What Check knows at each record -/
def toldB (B : Bool) (L : List RcV) (k : Nat) : Bool := decide (∀ j, j < k → B = true ∧ okR (L.getD j rc0).1 = true)
theorem toldB_0 (B : Bool) (L : List RcV) : toldB B L 0 = true := decide_eq_true fun j h => absurd h (Nat.not_lt_zero _)
theorem toldB_go {B : Bool} {L : List RcV} {k : Nat} (h : toldB B L k = true) (h1 : B = true) (h2 : okR (L.getD k rc0).1 = true) : toldB B L (k + 1) = true := by
  refine decide_eq_true fun j hj => ?_
  rcases Nat.lt_or_eq_of_le (Nat.le_of_lt_succ hj) with h3 | rfl
  · exact of_decide_eq_true h j h3
  · exact ⟨h1, h2⟩
theorem toldB_stop {B : Bool} {L : List RcV} {k : Nat} (hk : k < L.length) (h : ¬ (B = true ∧ okR (L.getD k rc0).1 = true)) : toldB B L L.length = false := decide_eq_false fun h1 => h (h1 k hk)
theorem toldB_all {B : Bool} {t v : Int} {sn : Sn} {a b : Sp} {es : List EnV} {gl : List Sg} : toldB B (RL t v sn a b es gl) (RL t v sn a b es gl).length = true ↔ B = true ∧ ∀ p ∈ RL t v sn spN spN es gl, okR p.1 = true := by
  unfold toldB
  rw [decide_eq_true_eq, told_iff, ← told_iff (a := a) (b := b)]
  constructor
  · intro h
    refine ⟨(h 0 (by rw [RL_len]; unfold offN; split <;> omega)).1, fun p hp => ?_⟩
    obtain ⟨i, hi, rfl⟩ := List.mem_iff_getElem.1 hp
    have := (h i hi).2
    rwa [List.getD_eq_getElem?_getD, List.getElem?_eq_getElem hi] at this
  · rintro ⟨h1, h2⟩ j hj
    exact ⟨h1, h2 _ (getD_mem hj)⟩
def ckG (b0 b1 b2 b3 : Nat) (l : List Value) (B : Bool) : Mem := [(b0, row 30 l), (b1, row 48 [.int .i64 0]), (b2, row 4 [.bool B]), (b3, row 30 l)]
def ckM (b0 b1 b2 b3 : Nat) (l : List Value) (B : Bool) (L : List RcV) (k : Nat) (z : Unit) : Mem := ckG b0 b1 b2 b3 l B ++ (if toldB B L k = true then [] else [(b0, row 0 [])])
def ckS (b1 : Nat) (B : Bool) (L : List RcV) (z : Unit) : Mem := if toldB B L L.length = true then [(b1, row 0 []), (b1, row 0 [])] else [(b1, row 48 [.int .i64 1])]
theorem ckM_at (b0 b1 b2 b3 : Nat) (l : List Value) (B : Bool) (L : List RcV) (k : Nat) (z : Unit) : (ckM b0 b1 b2 b3 l B L k z)[3]? = some (b3, row 30 l) := rfl
theorem ckM_pos {b0 b1 b2 b3 : Nat} {l : List Value} {B : Bool} {L : List RcV} {k : Nat} {z : Unit} (h : toldB B L k = true) : ckM b0 b1 b2 b3 l B L k z = ckG b0 b1 b2 b3 l B := by
  unfold ckM
  rw [if_pos h, List.append_nil]
theorem ckM_nd {b0 b1 b2 b3 : Nat} {l : List Value} {B : Bool} {L : List RcV} {k : Nat} {z : Unit} (h : ((ckM b0 b1 b2 b3 l B L k z).map (·.1)).Nodup) : toldB B L k = true := by
  by_cases h1 : toldB B L k = true
  · exact h1
  · unfold ckM at h
    rw [if_neg h1] at h
    simp [ckG] at h
theorem ckS_pos {b1 : Nat} {B : Bool} {L : List RcV} {z : Unit} (h : toldB B L L.length = false) : ckS b1 B L z = [(b1, row 48 [.int .i64 1])] := if_neg (by rw [h]; decide)
theorem ckS_nd {b1 : Nat} {B : Bool} {L : List RcV} {z : Unit} (h : ((ckS b1 B L z).map (·.1)).Nodup) : toldB B L L.length = false := by
  cases h1 : toldB B L L.length with
  | false => rfl
  | true =>
    unfold ckS at h
    rw [if_pos h1] at h
    simp at h
theorem ri_0 {g : Bool} {gl : List Sg} {k : Nat} (h1 : (g && riB gl k) = true) (h2 : (k : Int) = 0) : (g && riB gl (k + 1)) = true := by
  rw [riB_succ, decide_eq_true (by omega : k = 0), Bool.true_or, Bool.and_true, h1]
theorem ri_1 {g : Bool} {gl : List Sg} {k : Nat} (h1 : (g && riB gl k) = true) (h2 : ¬ (k : Int) = 0) : (g && riB gl (k + 1)) = decide ((gl.getD (k - 1) sg0).1.1 < (gl.getD k sg0).1.1) := by
  rw [riB_succ, decide_eq_false (by omega : ¬ k = 0), Bool.false_or, ← Bool.and_assoc, h1, Bool.true_and]
theorem ri_f {g : Bool} {gl : List Sg} {k : Nat} (h1 : (g && riB gl k) = false) : (g && riB gl (k + 1)) = false := by
  rw [riB_succ, ← Bool.and_assoc, h1, Bool.false_and]

abbrev svO (t v : Int) (sn : Sn) (es : List EnV) (gl : List Sg) : Sv := ⟨t, v, sn, es.map Prod.fst, gl⟩
/-- What Check says. -/
def chkN (t v : Int) (sn : Sn) (es : List EnV) (gl : List Sg) : Int := if baseP (svO t v sn es gl) ∧ goB sn es es.length = true ∧ riB gl gl.length = true ∧ ∀ p ∈ RL t v sn spN spN es gl, okR p.1 = true then 0 else 1
section
variable {t v : Int} {sn : Sn} {es : List EnV} {gl : List Sg}
theorem chk_no (h : ¬ baseP (svO t v sn es gl)) : (1 : Int) = chkN t v sn es gl := by
  unfold chkN
  rw [if_neg fun h1 => h h1.1]
theorem chk_no2 {a b : Sp} (h : toldB (goB sn es es.length && riB gl gl.length) (RL t v sn a b es gl) (RL t v sn a b es gl).length = false) : (1 : Int) = chkN t v sn es gl := by
  unfold chkN
  rw [if_neg fun h1 => by rw [toldB_all.2 ⟨by rw [h1.2.1, h1.2.2.1]; rfl, h1.2.2.2⟩] at h; cases h]
theorem chk_yes {a b : Sp} (hb : baseP (svO t v sn es gl)) (h : toldB (goB sn es es.length && riB gl gl.length) (RL t v sn a b es gl) (RL t v sn a b es gl).length = true) : (0 : Int) = chkN t v sn es gl := by
  unfold chkN
  obtain ⟨h1, h2⟩ := toldB_all.1 h
  rw [Bool.and_eq_true] at h1
  rw [if_pos ⟨hb, h1.1, h1.2, h2⟩]
theorem chk_right : chkN t v sn es gl = 0 ↔ RightS (svO t v sn es gl) := by
  have e : (baseP (svO t v sn es gl) ∧ goB sn es es.length = true ∧ riB gl gl.length = true ∧ ∀ p ∈ RL t v sn spN spN es gl, okR p.1 = true) ↔ RightS (svO t v sn es gl) := by
    unfold RightS
    rw [goB_iff (t := t) (v := v) (gl := gl), riB_iff (t := t) (v := v) (sn := sn) (es := es.map Prod.fst), told_iff]
  rw [← e]
  unfold chkN
  split
  · rename_i h; exact ⟨fun _ => h, fun _ => rfl⟩
  · rename_i h; exact ⟨fun h1 => absurd h1 (by decide), fun h1 => absurd h1 h⟩
theorem base_iff : baseP (svO t v sn es gl) ↔ es.length ≤ 9000 ∧ gl.length ≤ 200 ∧ ¬ far t ∧ ¬ far v ∧ ¬ far sn.1 ∧ (0 < sn.1 ∨ sn = sn0) := by
  unfold baseP
  simp only [List.length_map]
theorem base_go (hb : baseP (svO t v sn es gl)) : es.length ≤ 9000 ∧ gl.length ≤ 200 ∧ 0 ≤ sn.1 ∧ sn.1 ≤ 900000000 := by
  obtain ⟨h1, h2, h3, h4, h5, h6⟩ := base_iff.1 hb
  refine ⟨h1, h2, ?_, Int.not_lt.1 h5⟩
  rcases h6 with h6 | rfl
  · exact Int.le_of_lt h6
  · exact Int.le_refl 0
theorem go_w {i : Nat} (hI : ∀ p ∈ es, -9223372036854775808 ≤ p.1.1 ∧ p.1.1 ≤ 9223372036854775807) (hb : baseP (svO t v sn es gl)) (hi : i < es.length) : (goB sn es i && decide (IntKind.i64.wrap (IntKind.i64.wrap ((es.getD i env0).1.1 - 1) - (i : Int)) = sn.1)) = goB sn es (i + 1) := by
  obtain ⟨h1, h2, h3, h4⟩ := base_go hb
  have h5 := hI _ (getD_mem (d := env0) hi)
  rw [goB_succ, decide_eq_decide.2 (wrap_far h5.1 h5.2 (by omega) (by omega) h3 h4)]
end
theorem sz3v : (Try.prog.info? 3).map (·.size) = some 1 := by kernel_rfl
theorem sz4v : (Try.prog.info? 4).map (·.size) = some 1 := by kernel_rfl
theorem sz26v : (Try.prog.info? 26).map (·.size) = some 5 := by kernel_rfl
theorem sz27v : (Try.prog.info? 27).map (·.size) = some 1 := by kernel_rfl
theorem sz28v : (Try.prog.info? 28).map (·.size) = some 1 := by kernel_rfl
theorem sz30v : (Try.prog.info? 30).map (·.size) = some 9 := by kernel_rfl
theorem sz39v : (Try.prog.info? 39).map (·.size) = some 43 := by kernel_rfl
theorem sz41v : (Try.prog.info? 41).map (·.size) = some 65 := by kernel_rfl
theorem sz43v : (Try.prog.info? 43).map (·.size) = some 97 := by kernel_rfl
theorem sz45v : (Try.prog.info? 45).map (·.size) = some 149 := by kernel_rfl
theorem sz48v : (Try.prog.info? 48).map (·.size) = some 1 := by kernel_rfl
theorem tx18v : Txt Try.prog 18 := txt_of Try.func18 rfl (by kernel_rfl)
theorem tx19v : Txt Try.prog 19 := txt_of Try.func19 rfl (by kernel_rfl)
theorem tx20v : Txt Try.prog 20 := txt_of Try.func20 rfl (by kernel_rfl)
theorem tx21v : Txt Try.prog 21 := txt_of Try.func21 rfl (by kernel_rfl)
theorem tx38v : Txt Try.prog 38 := txt_of Try.func38 rfl (by kernel_rfl)
theorem z4v : (Try.prog.info? 4).bind (·.zero) = some (.bool false) := by kernel_rfl
theorem z39v : (Try.prog.info? 39).bind (·.zero) = some (.agg [.int .i64 0, .int .i64 0, .int .i64 0, .int .i64 0, .int .i64 0, .int .i64 0, .string ByteArray.empty, .string ByteArray.empty, .int .i64 0, .int .u8 0, .int .u8 0, .int .u8 0, .int .u8 0, .int .u8 0, .int .u8 0, .int .u8 0, .int .u8 0, .int .u8 0, .int .u8 0, .int .u8 0, .int .u8 0, .int .u8 0, .int .u8 0, .int .u8 0, .int .u8 0, .int .u8 0, .int .u8 0, .int .u8 0, .int .u8 0, .int .u8 0, .int .u8 0, .int .u8 0, .int .u8 0, .int .u8 0, .int .u8 0, .int .u8 0, .int .u8 0, .int .u8 0, .int .u8 0, .int .u8 0, .int .u8 0, .slice none 0 0, .slice none 0 0].toArray) := by kernel_rfl
theorem z43v : (Try.prog.info? 43).bind (·.zero) = some (.agg [.int .i64 0, .int .u8 0, .int .u8 0, .int .u8 0, .int .u8 0, .int .u8 0, .int .u8 0, .int .u8 0, .int .u8 0, .int .u8 0, .int .u8 0, .int .u8 0, .int .u8 0, .int .u8 0, .int .u8 0, .int .u8 0, .int .u8 0, .int .u8 0, .int .u8 0, .int .u8 0, .int .u8 0, .int .u8 0, .int .u8 0, .int .u8 0, .int .u8 0, .int .u8 0, .int .u8 0, .int .u8 0, .int .u8 0, .int .u8 0, .int .u8 0, .int .u8 0, .int .u8 0, .int .u8 0, .int .u8 0, .int .u8 0, .int .u8 0, .int .u8 0, .int .u8 0, .int .u8 0, .int .u8 0, .int .u8 0, .int .u8 0, .int .u8 0, .int .u8 0, .int .u8 0, .int .u8 0, .int .u8 0, .int .u8 0, .int .u8 0, .int .u8 0, .int .u8 0, .int .u8 0, .int .u8 0, .int .u8 0, .int .u8 0, .int .u8 0, .int .u8 0, .int .u8 0, .int .u8 0, .int .u8 0, .int .u8 0, .int .u8 0, .int .u8 0, .int .u8 0, .int .u8 0, .int .u8 0, .int .u8 0, .int .u8 0, .int .u8 0, .int .u8 0, .int .u8 0, .int .u8 0, .int .u8 0, .int .u8 0, .int .u8 0, .int .u8 0, .int .u8 0, .int .u8 0, .int .u8 0, .int .u8 0, .int .u8 0, .int .u8 0, .int .u8 0, .int .u8 0, .int .u8 0, .int .u8 0, .int .u8 0, .int .u8 0, .int .u8 0, .int .u8 0, .int .u8 0, .int .u8 0, .int .u8 0, .int .u8 0, .int .u8 0, .int .u8 0].toArray) := by kernel_rfl
theorem z45v : (Try.prog.info? 45).bind (·.zero) = some (.agg [.int .i64 0, .int .i64 0, .int .i64 0, .int .i64 0, .int .i64 0, .int .i64 0, .int .i64 0, .int .i64 0, .int .i64 0, .string ByteArray.empty, .string ByteArray.empty, .int .i64 0, .int .u8 0, .int .u8 0, .int .u8 0, .int .u8 0, .int .u8 0, .int .u8 0, .int .u8 0, .int .u8 0, .int .u8 0, .int .u8 0, .int .u8 0, .int .u8 0, .int .u8 0, .int .u8 0, .int .u8 0, .int .u8 0, .int .u8 0, .int .u8 0, .int .u8 0, .int .u8 0, .int .u8 0, .int .u8 0, .int .u8 0, .int .u8 0, .int .u8 0, .int .u8 0, .int .u8 0, .int .u8 0, .int .u8 0, .int .u8 0, .int .u8 0, .int .u8 0, .slice none 0 0, .slice none 0 0, .int .i64 0, .int .i64 0, .int .i64 0, .slice none 0 0, .slice none 0 0, .string ByteArray.empty, .int .i64 0, .int .u8 0, .int .u8 0, .int .u8 0, .int .u8 0, .int .u8 0, .int .u8 0, .int .u8 0, .int .u8 0, .int .u8 0, .int .u8 0, .int .u8 0, .int .u8 0, .int .u8 0, .int .u8 0, .int .u8 0, .int .u8 0, .int .u8 0, .int .u8 0, .int .u8 0, .int .u8 0, .int .u8 0, .int .u8 0, .int .u8 0, .int .u8 0, .int .u8 0, .int .u8 0, .int .u8 0, .int .u8 0, .int .u8 0, .int .u8 0, .int .u8 0, .int .u8 0, .int .u8 0, .int .u8 0, .int .u8 0, .int .u8 0, .int .u8 0, .int .u8 0, .int .u8 0, .int .u8 0, .int .u8 0, .int .u8 0, .int .u8 0, .int .u8 0, .int .u8 0, .int .u8 0, .int .u8 0, .int .u8 0, .int .u8 0, .int .u8 0, .int .u8 0, .int .u8 0, .int .u8 0, .int .u8 0, .int .u8 0, .int .u8 0, .int .u8 0, .int .u8 0, .int .u8 0, .int .u8 0, .int .u8 0, .int .u8 0, .int .u8 0, .int .u8 0, .int .u8 0, .int .u8 0, .int .u8 0, .int .u8 0, .int .u8 0, .int .u8 0, .int .u8 0, .int .u8 0, .int .u8 0, .int .u8 0, .int .u8 0, .int .u8 0, .int .u8 0, .int .u8 0, .int .u8 0, .int .u8 0, .int .u8 0, .int .u8 0, .int .u8 0, .int .u8 0, .int .u8 0, .int .u8 0, .int .u8 0, .int .u8 0, .int .u8 0, .int .u8 0, .int .u8 0, .int .u8 0, .int .u8 0, .int .u8 0, .int .u8 0, .int .u8 0].toArray) := by kernel_rfl
theorem z48v : (Try.prog.info? 48).bind (·.zero) = some (.int .i64 0) := by kernel_rfl

set_option maxHeartbeats 4000000 in
theorem check_w (t v : Int) (sn : Sn) (a1 a2 : Sp) (es : List EnV) (s : Sp) (gl : List Sg) (s3 : Sp) (w : World) (f1 : FA w (clA sn.2.2.1 a1 a2)) (f2 : FA w (esA es s)) (f3 : FA w (sgA gl s3)) (hB : sn.2.2.1.1.length ≤ 17592186044416 ∧ sn.2.2.1.2.length ≤ 17592186044416) (hE : es.length ≤ 549755813888) (hG : gl.length ≤ 549755813888) (hI : ∀ p ∈ es, -9223372036854775808 ≤ p.1.1 ∧ p.1.1 ≤ 9223372036854775807) :
    Calls Try.prog 8 #[.agg (svC t v sn a1 a2 (.slice s.1 es.length s.2) (.slice s3.1 gl.length s3.2)).toArray] w fun e w' => e = .returned (.int .i64 (chkN t v sn es gl)) ∧ Fr [] w w' := by
  refine calls_of_m (args := [.agg (svC t v sn a1 a2 (.slice s.1 es.length s.2) (.slice s3.1 gl.length s3.2)).toArray]) ([]) ([]) ([clA sn.2.2.1 a1 a2, esA es s, sgA gl s3]) Try.func8 rfl rfl (okFW (.cons f1 (.cons f2 (.cons f3 .nil)))) ?_
  refine J_seq ?_
  refine J_region ?_
  refine L_box rfl rfl rfl rfl rfl (fun b0 => ?_)
  refine L_alloc rfl rfl rfl rfl z48v (fun b1 => ?_)
  refine L_nil ?_
  change J _ _ _ _
  refine J_seq ?_
  refine J_mid (X := Nat × Nat × Nat) (fun z9 => { env := [(1, .pointer (some ⟨z9.1, 0, none⟩)), (2, .pointer (some ⟨z9.2.1, 0, none⟩)), (3, .pointer (some ⟨z9.2.2, 0, none⟩))], mem := [(z9.1, row 30 (svC t v sn a1 a2 (.slice s.1 es.length s.2) (.slice s3.1 gl.length s3.2))), (z9.2.1, row 48 ([.int .i64 0])), (z9.2.2, row 4 ([.bool (decide (baseP (svO t v sn es gl)))]))], facts := [clA sn.2.2.1 a1 a2, esA es s, sgA gl s3] }) ?_ ?_
  ·
    refine J_region ?_
    refine L_v rfl rfl rfl (V_fieldAddr rfl rfl Try.underlying30 rfl sz27v rfl) ?_
    refine L_v rfl rfl rfl (V_load1 0 rfl rfl rfl Try.underlying27 rfl (by rfl)) ?_
    refine L_v rfl rfl rfl (V_len rfl rfl Try.underlying27 rfl) ?_
    refine L_v rfl rfl rfl (V_leq rfl rfl rfl (by first | exact decide_eq_true (by omega) | exact decide_eq_false (by omega) | rfl)) ?_
    refine L_v rfl rfl rfl (V_move rfl rfl) ?_
    refine L_split 15 rfl (fun h1 => ?_) (fun h1 => ?_)
    ·
      first | (have h1 := of_decide_eq_true h1) | (have h1 := of_decide_eq_false h1) | skip
      refine L_wv rfl rfl rfl rfl rfl rfl (V_fieldAddr rfl rfl Try.underlying30 rfl sz28v rfl) ?_
      refine L_wv rfl rfl rfl rfl rfl rfl (V_load1 0 rfl rfl rfl Try.underlying28 rfl (by rfl)) ?_
      refine L_wv rfl rfl rfl rfl rfl rfl (V_len rfl rfl Try.underlying28 rfl) ?_
      refine L_wv rfl rfl rfl rfl rfl rfl (V_leq rfl rfl rfl (by first | exact decide_eq_true (by omega) | exact decide_eq_false (by omega) | rfl)) ?_
      first | refine L_v rfl rfl rfl (V_pickT rfl rfl rfl) ?_ | refine L_v rfl rfl rfl (V_pickF rfl rfl rfl) ?_
      refine L_v rfl rfl rfl (V_move rfl rfl) ?_
      refine L_split 21 rfl (fun h2 => ?_) (fun h2 => ?_)
      ·
        first | (have h2 := of_decide_eq_true h2) | (have h2 := of_decide_eq_false h2) | skip
        refine L_wv rfl rfl rfl rfl rfl rfl (V_fieldAddr rfl rfl Try.underlying30 rfl sz3v rfl) ?_
        refine L_wv rfl rfl rfl rfl rfl rfl (V_load1 0 rfl rfl rfl Try.underlying3 rfl (by rfl)) ?_
        refine L_wv rfl rfl rfl rfl rfl rfl (V_fieldAddr rfl rfl Try.underlying30 rfl sz3v rfl) ?_
        refine L_wv rfl rfl rfl rfl rfl rfl (V_load1 0 rfl rfl rfl Try.underlying3 rfl (by rfl)) ?_
        refine L_wv rfl rfl rfl rfl rfl rfl (V_fieldAddr rfl rfl Try.underlying30 rfl sz26v rfl) ?_
        refine L_wv rfl rfl rfl rfl rfl rfl (V_fieldAddr rfl rfl Try.underlying26 rfl sz3v rfl) ?_
        refine L_wv rfl rfl rfl rfl rfl rfl (V_load1 0 rfl rfl rfl Try.underlying3 rfl (by rfl)) ?_
        refine L_wS rfl rfl rfl rfl (S_buildSlice (vs := [(0, .int .i64 t), (1, .int .i64 v), (2, .int .i64 sn.1)]) (l := ints [t, v, sn.1]) rfl rfl rfl rfl (bs3 _ _ _) (fun b2 => ?_))
        refine L_wcallV rfl rfl rfl rfl rfl rfl rfl rfl rfl tx18v (fun w1 hw => far_w (some ⟨b2, 0, none⟩, 3) [t, v, sn.1] w1 (FA.slc (SlC.of_own hw (i := 2) (r := []) rfl rfl 3)) (Nat.succ_le_succ (Nat.zero_le _)) (by show 3 ≤ 100; omega)) ?_
        refine L_wv rfl rfl rfl rfl rfl rfl (V_not rfl rfl rfl) ?_
        first | refine L_v rfl rfl rfl (V_pickT rfl rfl rfl) ?_ | refine L_v rfl rfl rfl (V_pickF rfl rfl rfl) ?_
        refine L_v rfl rfl rfl (V_move rfl rfl) ?_
        refine L_split 33 rfl (fun h3 => ?_) (fun h3 => ?_)
        ·
          first | (have h3 := of_decide_eq_true h3) | (have h3 := of_decide_eq_false h3) | skip
          refine L_wv rfl rfl rfl rfl rfl rfl (V_fieldAddr rfl rfl Try.underlying30 rfl sz26v rfl) ?_
          refine L_wv rfl rfl rfl rfl rfl rfl (V_fieldAddr rfl rfl Try.underlying26 rfl sz3v rfl) ?_
          refine L_wv rfl rfl rfl rfl rfl rfl (V_load1 0 rfl rfl rfl Try.underlying3 rfl (by rfl)) ?_
          refine L_wv rfl rfl rfl rfl rfl rfl (V_gtr rfl rfl rfl (by first | exact decide_eq_true (by omega) | exact decide_eq_false (by omega) | rfl)) ?_
          refine L_wv rfl rfl rfl rfl rfl rfl (V_move rfl rfl) ?_
          refine L_split 38 rfl (fun h4 => ?_) (fun h4 => ?_)
          ·
            first | (have h4 := of_decide_eq_true h4) | (have h4 := of_decide_eq_false h4) | skip
            refine L_skip rfl rfl rfl rfl rfl rfl rfl ?_
            refine L_skip rfl rfl rfl rfl rfl rfl rfl ?_
            refine L_skip rfl rfl rfl rfl rfl rfl rfl ?_
            first | refine L_wv rfl rfl rfl rfl rfl rfl (V_pickT rfl rfl rfl) ?_ | refine L_wv rfl rfl rfl rfl rfl rfl (V_pickF rfl rfl rfl) ?_
            first | refine L_v rfl rfl rfl (V_pickT rfl rfl rfl) ?_ | refine L_v rfl rfl rfl (V_pickF rfl rfl rfl) ?_
            refine L_same 43 rfl ((show Value.bool true = Value.bool (decide (baseP (svO t v sn es gl))) from congrArg Value.bool (decide_eq_true (by rw [base_iff]; rw [Bool.not_eq_true', Bool.eq_false_iff, ne_eq, far_3] at h3; exact ⟨by omega, by omega, fun h => h3 (.inl h), fun h => h3 (.inr (.inl h)), fun h => h3 (.inr (.inr h)), .inl h4⟩)).symm)) ?_
            refine L_alloc rfl rfl rfl rfl z4v (fun b3 => ?_)
            refine L_store1 3 rfl rfl rfl rfl rfl rfl rfl sz4v (Nat.le_of_ble_eq_true (by kernel_rfl)) rfl ?_
            refine L_nil ?_
            exact ⟨(b0, b1, b3), ⟨rfl, rfl, rfl, trivial⟩, (List.Sublist.cons_cons _ (List.Sublist.cons_cons _ (List.Sublist.cons _ (List.Sublist.cons_cons _ (List.nil_sublist _))))), fun f hf => hf, rfl⟩
          ·
            first | (have h4 := of_decide_eq_true h4) | (have h4 := of_decide_eq_false h4) | skip
            refine L_wv rfl rfl rfl rfl rfl rfl (V_fieldAddr rfl rfl Try.underlying30 rfl sz26v rfl) ?_
            refine L_wv rfl rfl rfl rfl rfl rfl (V_loadT 0 (vs := snX sn a1 a2) rfl rfl rfl Try.underlying26 rfl sz26v (by kernel_rfl) (by kernel_rfl)) ?_
            refine L_wcallV rfl rfl rfl rfl rfl rfl rfl rfl rfl tx19v (fun w1 hw => noSnap_w sn a1 a2 w1 hB) ?_
            first | refine L_wv rfl rfl rfl rfl rfl rfl (V_pickT rfl rfl rfl) ?_ | refine L_wv rfl rfl rfl rfl rfl rfl (V_pickF rfl rfl rfl) ?_
            first | refine L_v rfl rfl rfl (V_pickT rfl rfl rfl) ?_ | refine L_v rfl rfl rfl (V_pickF rfl rfl rfl) ?_
            refine L_same 43 rfl ((show Value.bool (decide (sn = sn0)) = Value.bool (decide (baseP (svO t v sn es gl))) from congrArg Value.bool (by rw [decide_eq_decide, base_iff]; rw [Bool.not_eq_true', Bool.eq_false_iff, ne_eq, far_3] at h3; exact ⟨fun h => ⟨by omega, by omega, fun h => h3 (.inl h), fun h => h3 (.inr (.inl h)), fun h => h3 (.inr (.inr h)), .inr h⟩, fun h => h.2.2.2.2.2.resolve_left h4⟩))) ?_
            refine L_alloc rfl rfl rfl rfl z4v (fun b3 => ?_)
            refine L_store1 3 rfl rfl rfl rfl rfl rfl rfl sz4v (Nat.le_of_ble_eq_true (by kernel_rfl)) rfl ?_
            refine L_nil ?_
            exact ⟨(b0, b1, b3), ⟨rfl, rfl, rfl, trivial⟩, (List.Sublist.cons_cons _ (List.Sublist.cons_cons _ (List.Sublist.cons _ (List.Sublist.cons_cons _ (List.nil_sublist _))))), fun f hf => hf, rfl⟩
        ·
          first | (have h3 := of_decide_eq_true h3) | (have h3 := of_decide_eq_false h3) | skip
          refine L_skip rfl rfl rfl rfl rfl rfl rfl ?_
          refine L_skip rfl rfl rfl rfl rfl rfl rfl ?_
          refine L_skip rfl rfl rfl rfl rfl rfl rfl ?_
          refine L_skip rfl rfl rfl rfl rfl rfl rfl ?_
          refine L_skip rfl rfl rfl rfl rfl rfl rfl ?_
          refine L_skip rfl rfl rfl rfl rfl rfl rfl ?_
          refine L_skip rfl rfl rfl rfl rfl rfl rfl ?_
          refine L_skip rfl rfl rfl rfl rfl rfl rfl ?_
          refine L_skip rfl rfl rfl rfl rfl rfl rfl ?_
          first | refine L_v rfl rfl rfl (V_pickT rfl rfl rfl) ?_ | refine L_v rfl rfl rfl (V_pickF rfl rfl rfl) ?_
          refine L_same 43 rfl ((show Value.bool false = Value.bool (decide (baseP (svO t v sn es gl))) from congrArg Value.bool (decide_eq_false (by rw [base_iff]; rintro ⟨_, _, q1, q2, q3, _⟩; rw [Bool.not_eq_false', far_3] at h3; rcases h3 with h3 | h3 | h3 <;> contradiction)).symm)) ?_
          refine L_alloc rfl rfl rfl rfl z4v (fun b3 => ?_)
          refine L_store1 3 rfl rfl rfl rfl rfl rfl rfl sz4v (Nat.le_of_ble_eq_true (by kernel_rfl)) rfl ?_
          refine L_nil ?_
          exact ⟨(b0, b1, b3), ⟨rfl, rfl, rfl, trivial⟩, (List.Sublist.cons_cons _ (List.Sublist.cons_cons _ (List.Sublist.cons _ (List.Sublist.cons_cons _ (List.nil_sublist _))))), fun f hf => hf, rfl⟩
      ·
        first | (have h2 := of_decide_eq_true h2) | (have h2 := of_decide_eq_false h2) | skip
        refine L_skip rfl rfl rfl rfl rfl rfl rfl ?_
        refine L_skip rfl rfl rfl rfl rfl rfl rfl ?_
        refine L_skip rfl rfl rfl rfl rfl rfl rfl ?_
        refine L_skip rfl rfl rfl rfl rfl rfl rfl ?_
        refine L_skip rfl rfl rfl rfl rfl rfl rfl ?_
        refine L_skip rfl rfl rfl rfl rfl rfl rfl ?_
        refine L_skip rfl rfl rfl rfl rfl rfl rfl ?_
        refine L_skip rfl rfl rfl rfl rfl rfl rfl ?_
        refine L_skip rfl rfl rfl rfl rfl rfl rfl ?_
        refine L_skip rfl rfl rfl rfl rfl rfl rfl ?_
        first | refine L_v rfl rfl rfl (V_pickT rfl rfl rfl) ?_ | refine L_v rfl rfl rfl (V_pickF rfl rfl rfl) ?_
        refine L_v rfl rfl rfl (V_move rfl rfl) ?_
        refine L_skip rfl rfl rfl rfl rfl rfl rfl ?_
        refine L_skip rfl rfl rfl rfl rfl rfl rfl ?_
        refine L_skip rfl rfl rfl rfl rfl rfl rfl ?_
        refine L_skip rfl rfl rfl rfl rfl rfl rfl ?_
        refine L_skip rfl rfl rfl rfl rfl rfl rfl ?_
        refine L_skip rfl rfl rfl rfl rfl rfl rfl ?_
        refine L_skip rfl rfl rfl rfl rfl rfl rfl ?_
        refine L_skip rfl rfl rfl rfl rfl rfl rfl ?_
        refine L_skip rfl rfl rfl rfl rfl rfl rfl ?_
        first | refine L_v rfl rfl rfl (V_pickT rfl rfl rfl) ?_ | refine L_v rfl rfl rfl (V_pickF rfl rfl rfl) ?_
        refine L_same 43 rfl ((show Value.bool false = Value.bool (decide (baseP (svO t v sn es gl))) from congrArg Value.bool (decide_eq_false (by rw [base_iff]; rintro ⟨_, h, _⟩; omega)).symm)) ?_
        refine L_alloc rfl rfl rfl rfl z4v (fun b2 => ?_)
        refine L_store1 2 rfl rfl rfl rfl rfl rfl rfl sz4v (Nat.le_of_ble_eq_true (by kernel_rfl)) rfl ?_
        refine L_nil ?_
        exact ⟨(b0, b1, b2), ⟨rfl, rfl, rfl, trivial⟩, (List.Sublist.cons_cons _ (List.Sublist.cons_cons _ (List.Sublist.cons_cons _ (List.nil_sublist _)))), fun f hf => hf, rfl⟩
    ·
      first | (have h1 := of_decide_eq_true h1) | (have h1 := of_decide_eq_false h1) | skip
      refine L_skip rfl rfl rfl rfl rfl rfl rfl ?_
      refine L_skip rfl rfl rfl rfl rfl rfl rfl ?_
      refine L_skip rfl rfl rfl rfl rfl rfl rfl ?_
      refine L_skip rfl rfl rfl rfl rfl rfl rfl ?_
      first | refine L_v rfl rfl rfl (V_pickT rfl rfl rfl) ?_ | refine L_v rfl rfl rfl (V_pickF rfl rfl rfl) ?_
      refine L_v rfl rfl rfl (V_move rfl rfl) ?_
      refine L_skip rfl rfl rfl rfl rfl rfl rfl ?_
      refine L_skip rfl rfl rfl rfl rfl rfl rfl ?_
      refine L_skip rfl rfl rfl rfl rfl rfl rfl ?_
      refine L_skip rfl rfl rfl rfl rfl rfl rfl ?_
      refine L_skip rfl rfl rfl rfl rfl rfl rfl ?_
      refine L_skip rfl rfl rfl rfl rfl rfl rfl ?_
      refine L_skip rfl rfl rfl rfl rfl rfl rfl ?_
      refine L_skip rfl rfl rfl rfl rfl rfl rfl ?_
      refine L_skip rfl rfl rfl rfl rfl rfl rfl ?_
      refine L_skip rfl rfl rfl rfl rfl rfl rfl ?_
      first | refine L_v rfl rfl rfl (V_pickT rfl rfl rfl) ?_ | refine L_v rfl rfl rfl (V_pickF rfl rfl rfl) ?_
      refine L_v rfl rfl rfl (V_move rfl rfl) ?_
      refine L_skip rfl rfl rfl rfl rfl rfl rfl ?_
      refine L_skip rfl rfl rfl rfl rfl rfl rfl ?_
      refine L_skip rfl rfl rfl rfl rfl rfl rfl ?_
      refine L_skip rfl rfl rfl rfl rfl rfl rfl ?_
      refine L_skip rfl rfl rfl rfl rfl rfl rfl ?_
      refine L_skip rfl rfl rfl rfl rfl rfl rfl ?_
      refine L_skip rfl rfl rfl rfl rfl rfl rfl ?_
      refine L_skip rfl rfl rfl rfl rfl rfl rfl ?_
      refine L_skip rfl rfl rfl rfl rfl rfl rfl ?_
      first | refine L_v rfl rfl rfl (V_pickT rfl rfl rfl) ?_ | refine L_v rfl rfl rfl (V_pickF rfl rfl rfl) ?_
      refine L_same 43 rfl ((show Value.bool false = Value.bool (decide (baseP (svO t v sn es gl))) from congrArg Value.bool (decide_eq_false (by rw [base_iff]; rintro ⟨h, _⟩; omega)).symm)) ?_
      refine L_alloc rfl rfl rfl rfl z4v (fun b2 => ?_)
      refine L_store1 2 rfl rfl rfl rfl rfl rfl rfl sz4v (Nat.le_of_ble_eq_true (by kernel_rfl)) rfl ?_
      refine L_nil ?_
      exact ⟨(b0, b1, b2), ⟨rfl, rfl, rfl, trivial⟩, (List.Sublist.cons_cons _ (List.Sublist.cons_cons _ (List.Sublist.cons_cons _ (List.nil_sublist _)))), fun f hf => hf, rfl⟩
  rintro ⟨b0, b1, b2⟩
  change J _ _ _ _
  refine J_seq ?_
  refine J_seq ?_
  refine J_region ?_
  refine L_v rfl rfl rfl (V_load1 2 rfl rfl rfl Try.underlying4 rfl (by rfl)) ?_
  refine L_v rfl rfl rfl (V_not rfl rfl rfl) ?_
  refine L_nil ?_
  change J _ _ _ _
  refine J_cond rfl (fun h1 => ?_) (fun h1 => ?_)
  ·
    first | (have h1 := of_decide_eq_true h1) | (have h1 := of_decide_eq_false h1) | skip
    refine J_seq ?_
    refine J_region ?_
    refine L_store1 1 rfl rfl rfl rfl rfl rfl rfl sz48v (Nat.le_of_ble_eq_true (by kernel_rfl)) rfl ?_
    refine L_nil ?_
    change J _ _ _ _
    refine J_ret ?_
    change KretM _ _ _ Exit.ret _
    refine KretM_plain rfl ?_
    refine ret1 rfl rfl (RV_c1 1 rfl rfl Try.underlying48 rfl rfl) ?_
    exact fun w' h => ⟨by rw [chk_no (t := t) (v := v) (sn := sn) (es := es) (gl := gl) (of_decide_eq_false (bnT h1))], h.fr⟩
  ·
    first | (have h1 := of_decide_eq_true h1) | (have h1 := of_decide_eq_false h1) | skip
    have hbd : decide (baseP (svO t v sn es gl)) = true := bnF h1
    have hbase := of_decide_eq_true hbd
    obtain ⟨hb1, hb2, hb3, hb4⟩ := base_go hbase
    refine J_skip ?_
    change J _ _ _ _
    refine J_seq ?_
    refine J_seq ?_
    refine J_region ?_
    refine L_v rfl rfl rfl (V_fieldAddr rfl rfl Try.underlying30 rfl sz27v rfl) ?_
    refine L_v rfl rfl rfl (V_load1 0 rfl rfl rfl Try.underlying27 rfl (by rfl)) ?_
    refine L_v rfl rfl rfl (V_len rfl rfl Try.underlying27 rfl) ?_
    refine L_v rfl rfl rfl (V_move rfl rfl) ?_
    refine L_nil ?_
    change J _ _ _ _
    refine J_block ?_
    refine J_loop (X := Nat) (fun i => { env := [(1, .pointer (some ⟨b0, 0, none⟩)), (2, .pointer (some ⟨b1, 0, none⟩)), (3, .pointer (some ⟨b2, 0, none⟩)), (47, .slice s.1 es.length s.2), (48, .int .i64 (es.length : Int)), (49, .int .i64 (i : Int))], mem := [(b0, row 30 (svC t v sn a1 a2 (.slice s.1 es.length s.2) (.slice s3.1 gl.length s3.2))), (b1, row 48 [.int .i64 0]), (b2, row 4 [.bool (goB sn es i)])], facts := [clA sn.2.2.1 a1 a2, esA es s, sgA gl s3] }) (fun i => i ≤ es.length) (fun i => es.length - i) 0 (Nat.zero_le _) ⟨⟨rfl, rfl, rfl, rfl, rfl, rfl, trivial⟩, (by show List.Sublist [(b0, row 30 (svC t v sn a1 a2 (.slice s.1 es.length s.2) (.slice s3.1 gl.length s3.2))), (b1, row 48 [.int .i64 0]), (b2, row 4 [.bool (goB sn es 0)])] _; rw [show goB sn es 0 = decide (baseP (svO t v sn es gl)) from (goB_0 _ _).trans hbd.symm]; exact List.Sublist.refl _), fun f hf => hf, rfl⟩ ?_
    rintro i hi
    try simp only at hi ⊢
    refine J_seq ?_
    refine J_region ?_
    refine L_v rfl rfl rfl (V_lss rfl rfl rfl (by first | exact decide_eq_true (by omega) | exact decide_eq_false (by omega) | rfl)) ?_
    refine L_nil ?_
    change J _ _ _ _
    refine J_seq ?_
    refine J_cond rfl (fun h2 => ?_) (fun h2 => ?_)
    ·
      first | (have h2 := of_decide_eq_true h2) | (have h2 := of_decide_eq_false h2) | skip
      refine J_skip ?_
      change J _ _ _ _
      refine J_seq ?_
      refine J_block ?_
      refine J_seq ?_
      refine J_region ?_
      refine L_v rfl rfl rfl (V_move rfl rfl) ?_
      refine L_v rfl rfl rfl (V_indexC rfl rfl rfl Try.underlying27 sz39v (fun w hw => (hw.fa 1 rfl).l.1) (by omega) (by omega)) ?_
      refine L_v rfl rfl rfl (V_loadCN (vs := enX ((es.getD i env0).1) ((es.getD i env0).2.1) ((es.getD i env0).2.2)) rfl rfl Try.underlying39 rfl (szd sz39v (by kernel_rfl)) (fun w hw => (hw.fa 1 rfl).l.1) (by exact Nat.zero_lt_succ _) (rows_v (f := enW) env0 (sz := 42) (fun _ => rfl) (by omega))) ?_
      refine L_alloc rfl rfl rfl rfl z39v (fun b3 => ?_)
      refine L_v rfl rfl rfl (V_assign rfl rfl) ?_
      refine L_storeW 3 rfl rfl rfl rfl rfl rfl (szd sz39v (by kernel_rfl)) (all_one (by kernel_rfl)) (by kernel_rfl) ?_
      refine L_nil ?_
      change J _ _ _ _
      refine J_region ?_
      refine L_v rfl rfl rfl (V_load1 2 rfl rfl rfl Try.underlying4 rfl (by rfl)) ?_
      refine L_v rfl rfl rfl (V_move rfl rfl) ?_
      apply L_and 9 55 65
      · rfl
      · rfl
      · rfl
      · rfl
      · rfl
      · rfl
      · rfl
      · kernel_rfl
      · intro hb3 _ _ hk3
        refine L_wv rfl rfl rfl rfl rfl rfl (V_fieldAddr rfl rfl Try.underlying39 rfl sz3v rfl) ?_
        refine L_wv rfl rfl rfl rfl rfl rfl (V_load1 3 rfl rfl rfl Try.underlying3 rfl (by rfl)) ?_
        refine L_wv rfl rfl rfl rfl rfl rfl (V_sub rfl rfl rfl (by first | exact Go.IntWalk.i64_in _ (by omega) | rfl)) ?_
        refine L_wv rfl rfl rfl rfl rfl rfl (V_move rfl rfl) ?_
        refine L_wv rfl rfl rfl rfl rfl rfl (V_sub rfl rfl rfl (by first | exact Go.IntWalk.i64_in _ (by omega) | rfl)) ?_
        refine L_wv rfl rfl rfl rfl rfl rfl (V_fieldAddr rfl rfl Try.underlying30 rfl sz26v rfl) ?_
        refine L_wv rfl rfl rfl rfl rfl rfl (V_fieldAddr rfl rfl Try.underlying26 rfl sz3v rfl) ?_
        refine L_wv rfl rfl rfl rfl rfl rfl (V_load1 0 rfl rfl rfl Try.underlying3 rfl (by rfl)) ?_
        refine L_wv rfl rfl rfl rfl rfl rfl (V_eql rfl rfl rfl (by first | exact decide_eq_true (by omega) | exact decide_eq_false (by omega) | rfl)) ?_
        exact hk3 _ ⟨rfl, rfl, rfl, rfl, ext_cut 9 (by kernel_rfl) (by kernel_rfl)⟩
      refine L_store1 2 rfl rfl rfl rfl rfl rfl rfl sz4v (Nat.le_of_ble_eq_true (by kernel_rfl)) rfl ?_
      refine L_nil ?_
      change J _ _ _ _
      refine J_region ?_
      refine L_v rfl rfl rfl (V_add rfl rfl rfl (by first | exact Go.IntWalk.i64_in _ (by omega) | rfl)) ?_
      refine L_v rfl rfl rfl (V_move rfl rfl) ?_
      refine L_nil ?_
      exact ⟨i + 1, by show i + 1 ≤ es.length; omega, by show es.length - (i + 1) < es.length - i; omega, ⟨rfl, rfl, rfl, rfl, rfl, rfl, trivial⟩, (by show List.Sublist [(b0, row 30 (svC t v sn a1 a2 (.slice s.1 es.length s.2) (.slice s3.1 gl.length s3.2))), (b1, row 48 [.int .i64 0]), (b2, row 4 [.bool (goB sn es (i + 1))])] _; rw [← go_w hI hbase (by omega)]; exact List.Sublist.cons_cons _ (List.Sublist.cons_cons _ (List.Sublist.cons_cons _ (List.nil_sublist _)))), fun f hf => hf, rfl⟩
    ·
      first | (have h2 := of_decide_eq_true h2) | (have h2 := of_decide_eq_false h2) | skip
      obtain rfl : i = es.length := by omega
      refine J_exit ?_
      change J _ _ _ _
      refine J_seq ?_
      refine J_seq ?_
      refine J_region ?_
      refine L_v rfl rfl rfl (V_fieldAddr rfl rfl Try.underlying30 rfl sz28v rfl) ?_
      refine L_v rfl rfl rfl (V_load1 0 rfl rfl rfl Try.underlying28 rfl (by rfl)) ?_
      refine L_v rfl rfl rfl (V_len rfl rfl Try.underlying28 rfl) ?_
      refine L_v rfl rfl rfl (V_move rfl rfl) ?_
      refine L_nil ?_
      change J _ _ _ _
      refine J_block ?_
      refine J_loop (X := Nat) (fun k => { env := [(1, .pointer (some ⟨b0, 0, none⟩)), (2, .pointer (some ⟨b1, 0, none⟩)), (3, .pointer (some ⟨b2, 0, none⟩)), (68, .slice s3.1 gl.length s3.2), (69, .int .i64 (gl.length : Int)), (70, .int .i64 (k : Int))], mem := [(b0, row 30 (svC t v sn a1 a2 (.slice s.1 es.length s.2) (.slice s3.1 gl.length s3.2))), (b1, row 48 [.int .i64 0]), (b2, row 4 [.bool (goB sn es es.length && riB gl k)])], facts := [clA sn.2.2.1 a1 a2, esA es s, sgA gl s3] }) (fun k => k ≤ gl.length) (fun k => gl.length - k) 0 (Nat.zero_le _) ⟨⟨rfl, rfl, rfl, rfl, rfl, rfl, trivial⟩, (by show List.Sublist [(b0, row 30 (svC t v sn a1 a2 (.slice s.1 es.length s.2) (.slice s3.1 gl.length s3.2))), (b1, row 48 [.int .i64 0]), (b2, row 4 [.bool (goB sn es es.length && riB gl 0)])] _; rw [riB_0, Bool.and_true]; exact List.Sublist.refl _), fun f hf => hf, rfl⟩ ?_
      rintro k hk
      try simp only at hk ⊢
      refine J_seq ?_
      refine J_region ?_
      refine L_v rfl rfl rfl (V_lss rfl rfl rfl (by first | exact decide_eq_true (by omega) | exact decide_eq_false (by omega) | rfl)) ?_
      refine L_nil ?_
      change J _ _ _ _
      refine J_seq ?_
      refine J_cond rfl (fun h3 => ?_) (fun h3 => ?_)
      ·
        first | (have h3 := of_decide_eq_true h3) | (have h3 := of_decide_eq_false h3) | skip
        refine J_skip ?_
        change J _ _ _ _
        refine J_seq ?_
        refine J_block ?_
        refine J_seq ?_
        refine J_region ?_
        refine L_v rfl rfl rfl (V_move rfl rfl) ?_
        refine L_v rfl rfl rfl (V_indexC rfl rfl rfl Try.underlying28 sz43v (fun w hw => (hw.fa 2 rfl).1) (by omega) (by omega)) ?_
        refine L_v rfl rfl rfl (V_loadCN (vs := sgV (gl.getD k sg0)) rfl rfl Try.underlying43 rfl (szd sz43v (by kernel_rfl)) (fun w hw => (hw.fa 2 rfl).1) (by exact Nat.zero_lt_succ _) (rows_v (f := sgV) sg0 (sz := 96) (fun _ => rfl) (by omega))) ?_
        refine L_alloc rfl rfl rfl rfl z43v (fun b3 => ?_)
        refine L_v rfl rfl rfl (V_assign rfl rfl) ?_
        refine L_storeW 3 rfl rfl rfl rfl rfl rfl (szd sz43v (by kernel_rfl)) (all_one (by kernel_rfl)) (by kernel_rfl) ?_
        refine L_nil ?_
        change J _ _ _ _
        refine J_regionO (.one 0 (.pure 1 (.pure 2 (.pure 3 (.pure 4 (.pure 5 (.pure 6 (.pure 7 (.pure 8 (.pure 9 (.pure 10 (.pure 11 (.pure 12 (.pure 13 (.pure 14 (.pure 15 (.pure 16 (.pure 17 (.pure 18 (.one 19 (.nil))))))))))))))))))))) ([(b0, row 30 (svC t v sn a1 a2 (.slice s.1 es.length s.2) (.slice s3.1 gl.length s3.2))), (b1, row 48 ([.int .i64 0])), (b3, row 43 (sgV (gl.getD k sg0)))]) _ (Pk.of_sub (List.Sublist.cons_cons _ (List.Sublist.cons_cons _ (List.Sublist.cons _ (List.Sublist.cons_cons _ (List.nil_sublist _)))))) (fun f hf => hf) rfl rfl (by kernel_rfl) ?_
        refine LO_s rfl rfl rfl (S_v rfl rfl (V_load1 2 rfl rfl rfl Try.underlying4 rfl (by rfl)) ⟨(Pk.of_sub (List.Sublist.cons_cons _ (List.Sublist.cons_cons _ (List.Sublist.cons _ (List.Sublist.cons_cons _ (List.nil_sublist _)))))), (fun f hf => hf), ?_⟩)
        refine LO_v rfl rfl rfl rfl (V_move rfl rfl) ?_
        refine LO_split 76 rfl (fun h4 => ?_) (fun h4 => ?_)
        ·
          first | (have h4 := of_decide_eq_true h4) | (have h4 := of_decide_eq_false h4) | skip
          refine LO_wv rfl rfl rfl rfl rfl rfl rfl (V_move rfl rfl) ?_
          refine LO_wv rfl rfl rfl rfl rfl rfl rfl (V_eql rfl rfl rfl (by first | exact decide_eq_true (by omega) | exact decide_eq_false (by omega) | rfl)) ?_
          refine LO_wv rfl rfl rfl rfl rfl rfl rfl (V_move rfl rfl) ?_
          refine LO_split 79 rfl (fun h5 => ?_) (fun h5 => ?_)
          ·
            first | (have h5 := of_decide_eq_true h5) | (have h5 := of_decide_eq_false h5) | skip
            refine LO_skip rfl rfl rfl rfl rfl rfl rfl rfl ?_
            refine LO_skip rfl rfl rfl rfl rfl rfl rfl rfl ?_
            refine LO_skip rfl rfl rfl rfl rfl rfl rfl rfl ?_
            refine LO_skip rfl rfl rfl rfl rfl rfl rfl rfl ?_
            refine LO_skip rfl rfl rfl rfl rfl rfl rfl rfl ?_
            refine LO_skip rfl rfl rfl rfl rfl rfl rfl rfl ?_
            refine LO_skip rfl rfl rfl rfl rfl rfl rfl rfl ?_
            refine LO_skip rfl rfl rfl rfl rfl rfl rfl rfl ?_
            refine LO_skip rfl rfl rfl rfl rfl rfl rfl rfl ?_
            refine LO_skip rfl rfl rfl rfl rfl rfl rfl rfl ?_
            refine LO_skip rfl rfl rfl rfl rfl rfl rfl rfl ?_
            refine LO_skip rfl rfl rfl rfl rfl rfl rfl rfl ?_
            first | refine LO_wv rfl rfl rfl rfl rfl rfl rfl (V_pickT rfl rfl rfl) ?_ | refine LO_wv rfl rfl rfl rfl rfl rfl rfl (V_pickF rfl rfl rfl) ?_
            first | refine LO_v rfl rfl rfl rfl (V_pickT rfl rfl rfl) ?_ | refine LO_v rfl rfl rfl rfl (V_pickF rfl rfl rfl) ?_
            refine LO_s rfl rfl rfl (S_store1 2 rfl rfl rfl rfl rfl rfl sz4v (Nat.le_of_ble_eq_true (by kernel_rfl)) rfl ⟨(Pk.of_sub (List.Sublist.cons_cons _ (List.Sublist.cons_cons _ (List.Sublist.cons _ (List.Sublist.cons_cons _ (List.nil_sublist _)))))), (fun f hf => hf), ?_⟩)
            refine LO_nil ?_
            change J _ _ _ _
            refine J_region ?_
            refine L_v rfl rfl rfl (V_add rfl rfl rfl (by first | exact Go.IntWalk.i64_in _ (by omega) | rfl)) ?_
            refine L_v rfl rfl rfl (V_move rfl rfl) ?_
            refine L_nil ?_
            exact ⟨k + 1, by show k + 1 ≤ gl.length; omega, by show gl.length - (k + 1) < gl.length - k; omega, ⟨rfl, rfl, rfl, rfl, rfl, rfl, trivial⟩, (by show List.Sublist [(b0, row 30 (svC t v sn a1 a2 (.slice s.1 es.length s.2) (.slice s3.1 gl.length s3.2))), (b1, row 48 [.int .i64 0]), (b2, row 4 [.bool (goB sn es es.length && riB gl (k + 1))])] _; rw [ri_0 h4 h5]; exact List.Sublist.cons_cons _ (List.Sublist.cons_cons _ (List.Sublist.cons_cons _ (List.nil_sublist _)))), fun f hf => hf, rfl⟩
          ·
            first | (have h5 := of_decide_eq_true h5) | (have h5 := of_decide_eq_false h5) | skip
            refine LO_wv rfl rfl rfl rfl rfl rfl rfl (V_fieldAddr rfl rfl Try.underlying30 rfl sz28v rfl) ?_
            refine LO_wv rfl rfl rfl rfl rfl rfl rfl (V_load1 0 rfl rfl rfl Try.underlying28 rfl (by rfl)) ?_
            refine LO_wv rfl rfl rfl rfl rfl rfl rfl (V_move rfl rfl) ?_
            refine LO_wv rfl rfl rfl rfl rfl rfl rfl (V_sub (r := ((k - 1 : Nat) : Int)) rfl rfl rfl (by rw [IntKind.wrap_i64]; omega)) ?_
            refine LO_wv rfl rfl rfl rfl rfl rfl rfl (V_indexC rfl rfl rfl Try.underlying28 sz43v (fun w hw => (hw.fa 2 rfl).1) (by omega) (by omega)) ?_
            refine LO_wv rfl rfl rfl rfl rfl rfl rfl (V_fieldC rfl rfl (fun w hw => (let ⟨b, o, e, _⟩ := SlC.cell ((hw.fa 2 rfl).1) (rows_v (f := sgV) sg0 (i := k - 1) (sz := 96) (fun _ => rfl) (by omega) 0 _ rfl); ⟨b, o, e⟩)) Try.underlying43 rfl sz41v rfl) ?_
            refine LO_wv rfl rfl rfl rfl rfl rfl rfl (V_fieldC rfl rfl (fun w hw => (let ⟨b, o, e, _⟩ := SlC.cell ((hw.fa 2 rfl).1) (rows_v (f := sgV) sg0 (i := k - 1) (sz := 96) (fun _ => rfl) (by omega) 0 _ rfl); ⟨b, o, e⟩)) Try.underlying41 rfl sz3v rfl) ?_
            refine LO_wv rfl rfl rfl rfl rfl rfl rfl (V_loadC rfl rfl Try.underlying3 rfl (fun w hw => (hw.fa 2 rfl).1) (rows_v (f := sgV) sg0 (i := k - 1) (sz := 96) (fun _ => rfl) (by omega) 0 _ rfl)) ?_
            refine LO_wv rfl rfl rfl rfl rfl rfl rfl (V_fieldAddr rfl rfl Try.underlying43 rfl sz41v rfl) ?_
            refine LO_wv rfl rfl rfl rfl rfl rfl rfl (V_fieldAddr rfl rfl Try.underlying41 rfl sz3v rfl) ?_
            refine LO_wv rfl rfl rfl rfl rfl rfl rfl (V_load1 2 rfl rfl rfl Try.underlying3 rfl (by rfl)) ?_
            refine LO_wv rfl rfl rfl rfl rfl rfl rfl (V_lss rfl rfl rfl (by first | exact decide_eq_true (by omega) | exact decide_eq_false (by omega) | rfl)) ?_
            first | refine LO_wv rfl rfl rfl rfl rfl rfl rfl (V_pickT rfl rfl rfl) ?_ | refine LO_wv rfl rfl rfl rfl rfl rfl rfl (V_pickF rfl rfl rfl) ?_
            first | refine LO_v rfl rfl rfl rfl (V_pickT rfl rfl rfl) ?_ | refine LO_v rfl rfl rfl rfl (V_pickF rfl rfl rfl) ?_
            refine LO_s rfl rfl rfl (S_store1 2 rfl rfl rfl rfl rfl rfl sz4v (Nat.le_of_ble_eq_true (by kernel_rfl)) rfl ⟨(Pk.of_sub (List.Sublist.cons_cons _ (List.Sublist.cons_cons _ (List.Sublist.cons _ (List.Sublist.cons_cons _ (List.nil_sublist _)))))), (fun f hf => hf), ?_⟩)
            refine LO_nil ?_
            change J _ _ _ _
            refine J_region ?_
            refine L_v rfl rfl rfl (V_add rfl rfl rfl (by first | exact Go.IntWalk.i64_in _ (by omega) | rfl)) ?_
            refine L_v rfl rfl rfl (V_move rfl rfl) ?_
            refine L_nil ?_
            exact ⟨k + 1, by show k + 1 ≤ gl.length; omega, by show gl.length - (k + 1) < gl.length - k; omega, ⟨rfl, rfl, rfl, rfl, rfl, rfl, trivial⟩, (by show List.Sublist [(b0, row 30 (svC t v sn a1 a2 (.slice s.1 es.length s.2) (.slice s3.1 gl.length s3.2))), (b1, row 48 [.int .i64 0]), (b2, row 4 [.bool (goB sn es es.length && riB gl (k + 1))])] _; rw [ri_1 h4 h5]; exact List.Sublist.cons_cons _ (List.Sublist.cons_cons _ (List.Sublist.cons_cons _ (List.nil_sublist _)))), fun f hf => hf, rfl⟩
        ·
          first | (have h4 := of_decide_eq_true h4) | (have h4 := of_decide_eq_false h4) | skip
          refine LO_skip rfl rfl rfl rfl rfl rfl rfl rfl ?_
          refine LO_skip rfl rfl rfl rfl rfl rfl rfl rfl ?_
          refine LO_skip rfl rfl rfl rfl rfl rfl rfl rfl ?_
          refine LO_skip rfl rfl rfl rfl rfl rfl rfl rfl ?_
          refine LO_skip rfl rfl rfl rfl rfl rfl rfl rfl ?_
          refine LO_skip rfl rfl rfl rfl rfl rfl rfl rfl ?_
          refine LO_skip rfl rfl rfl rfl rfl rfl rfl rfl ?_
          refine LO_skip rfl rfl rfl rfl rfl rfl rfl rfl ?_
          refine LO_skip rfl rfl rfl rfl rfl rfl rfl rfl ?_
          refine LO_skip rfl rfl rfl rfl rfl rfl rfl rfl ?_
          refine LO_skip rfl rfl rfl rfl rfl rfl rfl rfl ?_
          refine LO_skip rfl rfl rfl rfl rfl rfl rfl rfl ?_
          refine LO_skip rfl rfl rfl rfl rfl rfl rfl rfl ?_
          refine LO_skip rfl rfl rfl rfl rfl rfl rfl rfl ?_
          refine LO_skip rfl rfl rfl rfl rfl rfl rfl rfl ?_
          refine LO_skip rfl rfl rfl rfl rfl rfl rfl rfl ?_
          first | refine LO_v rfl rfl rfl rfl (V_pickT rfl rfl rfl) ?_ | refine LO_v rfl rfl rfl rfl (V_pickF rfl rfl rfl) ?_
          refine LO_s rfl rfl rfl (S_store1 2 rfl rfl rfl rfl rfl rfl sz4v (Nat.le_of_ble_eq_true (by kernel_rfl)) rfl ⟨(Pk.of_sub (List.Sublist.cons_cons _ (List.Sublist.cons_cons _ (List.Sublist.cons _ (List.Sublist.cons_cons _ (List.nil_sublist _)))))), (fun f hf => hf), ?_⟩)
          refine LO_nil ?_
          change J _ _ _ _
          refine J_region ?_
          refine L_v rfl rfl rfl (V_add rfl rfl rfl (by first | exact Go.IntWalk.i64_in _ (by omega) | rfl)) ?_
          refine L_v rfl rfl rfl (V_move rfl rfl) ?_
          refine L_nil ?_
          exact ⟨k + 1, by show k + 1 ≤ gl.length; omega, by show gl.length - (k + 1) < gl.length - k; omega, ⟨rfl, rfl, rfl, rfl, rfl, rfl, trivial⟩, (by show List.Sublist [(b0, row 30 (svC t v sn a1 a2 (.slice s.1 es.length s.2) (.slice s3.1 gl.length s3.2))), (b1, row 48 [.int .i64 0]), (b2, row 4 [.bool (goB sn es es.length && riB gl (k + 1))])] _; rw [ri_f h4]; exact List.Sublist.cons_cons _ (List.Sublist.cons_cons _ (List.Sublist.cons_cons _ (List.nil_sublist _)))), fun f hf => hf, rfl⟩
      ·
        first | (have h3 := of_decide_eq_true h3) | (have h3 := of_decide_eq_false h3) | skip
        obtain rfl : k = gl.length := by omega
        refine J_exit ?_
        change J _ _ _ _
        refine J_seq ?_
        refine J_seq ?_
        refine J_region ?_
        refine L_v rfl rfl rfl (V_loadT 0 (vs := svC t v sn a1 a2 (.slice s.1 es.length s.2) (.slice s3.1 gl.length s3.2)) rfl rfl rfl Try.underlying30 rfl sz30v (by kernel_rfl) (by kernel_rfl)) ?_
        refine L_call rfl rfl rfl rfl tx20v (fun w1 hw => (records_o _ (by kernel_rfl) w1).mono ?_)
        rintro e w' ⟨b3, rfl, hfr3, hsz3, hb3⟩
        refine ⟨_, _, _, rfl, hw.add hfr3 hb3 hsz3, rfl, ?_⟩
        refine L_nil ?_
        change J _ _ _ _
        refine J_block ?_
        refine J_rangeFuncX (ckM b0 b1 b2 b3 (svC t v sn a1 a2 (.slice s.1 es.length s.2) (.slice s3.1 gl.length s3.2)) (goB sn es es.length && riB gl gl.length) (RL t v sn a1 a2 es gl)) (ckS b1 (goB sn es es.length && riB gl gl.length) (RL t v sn a1 a2 es gl)) (fun _ => ()) .ret () (RL t v sn a1 a2 es gl).length (fun k => [.agg (rcW ((RL t v sn a1 a2 es gl).getD k rc0)).toArray]) rfl rfl rfl tx38v (fun _ => rfl) (by intro p hp; obtain rfl := List.mem_singleton.1 hp; rfl) (ckM_pos (toldB_0 _ _)) ?_ ?_ ?_ ?_
        · intro D lp r w9 hR hw9
          exact recs_w w _ [clA sn.2.2.1 a1 a2, esA es s, sgA gl s3] (ckM b0 b1 b2 b3 (svC t v sn a1 a2 (.slice s.1 es.length s.2) (.slice s3.1 gl.length s3.2)) (goB sn es es.length && riB gl gl.length) (RL t v sn a1 a2 es gl)) (ckS b1 (goB sn es es.length && riB gl gl.length) (RL t v sn a1 a2 es gl)) (fun _ => ()) .ret D lp r 3 b3 t v sn a1 a2 es s gl s3 () w9 f2.l.1 f3.1 (by omega) (by omega) hB (fun k z => rfl) hR (hw9.cast rfl rfl)
        · rintro D lp r k z hk
          refine J_nd fun hnd => ?_
          have hP := ckM_nd (nd_app hnd)
          rw [ckM_pos hP]
          refine J_region ?_
          refine L_alloc rfl rfl rfl rfl z45v (fun b6 => ?_)
          refine L_storeW 6 rfl rfl rfl rfl rfl rfl (szd sz45v (by kernel_rfl)) (all_one (by kernel_rfl)) (by kernel_rfl) ?_
          refine L_nil ?_
          refine ⟨[(b6, row 45 (rcW ((RL t v sn a1 a2 es gl).getD k rc0)))], rfl, rfl, rfl, ?_⟩
          refine J_block ?_
          refine J_seq ?_
          refine J_region ?_
          refine L_v rfl rfl rfl (V_loadT 6 (vs := rcW ((RL t v sn a1 a2 es gl).getD k rc0)) rfl rfl rfl Try.underlying45 rfl sz45v (by kernel_rfl) (by kernel_rfl)) ?_
          refine L_call rfl rfl rfl rfl tx21v (fun w1 hw => (put_rec ((RL t v sn a1 a2 es gl).getD k rc0) w1 ((RL_A f1 f2.r _ (getD_mem hk)).fr hw.fr)).mono ?_)
          rintro e w' ⟨v9, rfl, hfr9⟩
          refine ⟨_, _, _, rfl, hw.fr0 hfr9, rfl, ?_⟩
          refine L_v rfl rfl rfl (V_move rfl rfl) ?_
          refine L_v rfl rfl rfl (V_extract rfl rfl rfl) ?_
          refine L_v rfl rfl rfl (V_extract rfl rfl rfl) ?_
          refine L_v rfl rfl rfl (V_assign rfl rfl) ?_
          refine L_v rfl rfl rfl (V_assign rfl rfl) ?_
          refine L_nil ?_
          change J _ _ _ _
          refine J_seq ?_
          refine J_region ?_
          refine L_v rfl rfl rfl (V_move rfl rfl) ?_
          refine L_v rfl rfl rfl (V_neq rfl rfl rfl (by first | exact decide_eq_true (by omega) | exact decide_eq_false (by omega) | rfl)) ?_
          refine L_v rfl rfl rfl (V_move rfl rfl) ?_
          apply L_or 2 105 108
          · rfl
          · rfl
          · rfl
          · rfl
          · rfl
          · rfl
          · rfl
          · kernel_rfl
          · intro hb4 _ _ hk4
            refine L_wv rfl rfl rfl rfl rfl rfl (V_load1 2 rfl rfl rfl Try.underlying4 rfl (by rfl)) ?_
            refine L_wv rfl rfl rfl rfl rfl rfl (V_not rfl rfl rfl) ?_
            exact hk4 _ ⟨rfl, rfl, rfl, rfl, ext_cut 2 (by kernel_rfl) (by kernel_rfl)⟩
          refine L_nil ?_
          change J _ _ _ _
          refine J_cond rfl (fun h5 => ?_) (fun h5 => ?_)
          ·
            first | (have h5 := of_decide_eq_true h5) | (have h5 := of_decide_eq_false h5) | skip
            refine J_seq ?_
            refine J_region ?_
            refine L_store1 1 rfl rfl rfl rfl rfl rfl rfl sz48v (Nat.le_of_ble_eq_true (by kernel_rfl)) rfl ?_
            refine L_nil ?_
            change J _ _ _ _
            refine J_ret ?_
            have hc : toldB (goB sn es es.length && riB gl gl.length) (RL t v sn a1 a2 es gl) (RL t v sn a1 a2 es gl).length = false := toldB_stop hk (fun hh => by
              rw [← putE_ok] at hh
              rw [hh.1, hh.2] at h5
              exact absurd h5 (by decide))
            exact ⟨rfl, rfl, (), by rw [ckS_pos hc]; exact Pk.of_sub (List.Sublist.cons _ (List.Sublist.cons_cons _ (List.Sublist.cons _ (List.Sublist.cons _ (List.Sublist.cons_cons _ (List.Sublist.cons_cons _ (List.nil_sublist _)))))))⟩
          ·
            first | (have h5 := of_decide_eq_true h5) | (have h5 := of_decide_eq_false h5) | skip
            refine J_skip ?_
            rw [Bool.or_eq_false_iff, decide_eq_false_iff_not, Classical.not_not, Bool.not_eq_false', putE_ok] at h5
            have hc := toldB_go hP h5.2 h5.1
            exact ⟨rfl, (), rfl, by rw [ckM_pos hc]; exact Pk.of_sub (List.Sublist.cons_cons _ (List.Sublist.cons_cons _ (List.Sublist.cons_cons _ (List.Sublist.cons_cons _ (List.Sublist.cons_cons _ (List.Sublist.cons_cons _ (List.nil_sublist _)))))))⟩
        · rintro D z
          change J _ _ _ _
          refine J_nd fun hnd => ?_
          have hP := ckM_nd (nd_app hnd)
          rw [ckM_pos hP]
          change J _ _ _ _
          refine J_seq ?_
          refine J_region ?_
          refine L_store1 1 rfl rfl rfl rfl rfl rfl rfl sz48v (Nat.le_of_ble_eq_true (by kernel_rfl)) rfl ?_
          refine L_nil ?_
          change J _ _ _ _
          refine J_ret ?_
          change KretM _ _ _ Exit.ret _
          refine KretM_mark 4 rfl rfl ?_
          refine ret1 rfl rfl (RV_c1 1 rfl rfl Try.underlying48 rfl rfl) ?_
          exact fun w' h => ⟨by rw [chk_yes hbase hP], h.fr⟩
        · rintro D z
          refine J_nd fun hnd => ?_
          have hP := ckS_nd (nd_app hnd)
          rw [ckS_pos hP]
          refine J_ret ?_
          change KretM _ _ _ Exit.ret _
          refine KretM_mark 1 rfl rfl ?_
          refine ret1 rfl rfl (RV_c1 0 rfl rfl Try.underlying48 rfl rfl) ?_
          exact fun w' h => ⟨by rw [chk_no2 hP], h.fr⟩

end Go.Proofs.Ytcdenfkbhefbbaa
