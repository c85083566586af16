/- Small tests of the vault; copies of one's own. -/
import Derived.Test.YtcdenfkbhefbbaaVaultPure
import Derived.Test.YtcdenfkbhefbbaaProg
set_option linter.unusedVariables false
set_option linter.unusedSimpArgs false
set_option maxRecDepth 100000
namespace Go.Proofs.Ytcdenfkbhefbbaa
open Go.Sx
theorem szDq : (Try.prog.info? 5).map (·.size) = some 1 := by kernel_rfl
theorem szDg : (Try.prog.info? 35).map (·.size) = some 32 := by kernel_rfl
theorem pDg {cs : Array Value} {off : Nat} {f : Dg} {w : World} (h : cs.extract off (off + 32) = (dg (l32 f)).toArray) : (part 35 cs off).run Try.prog w = .ok (.agg (dg (l32 f)).toArray) w := by rw [run_partArr Try.underlying35 szDg, h]
theorem eqDgD (x y : Dg) (w : World) (d : Nat) : (Op.equalIn (d + 2) 35 (.agg (dg (l32 x)).toArray) (.agg (dg (l32 y)).toArray)).run Try.prog w = .ok (decide (x = y)) w := by
  refine (run_eqDg Try.underlying35 Try.underlying5 szDq (l32_len x) (l32_len y) w d).trans ?_
  congr 1
  rw [decide_eq_decide, l32_iff]
theorem eqCmdD (x y : Cmd) (w : World) (d : Nat) : (Op.equalIn (d + 3) 37 (.agg (cmdV x).toArray) (.agg (cmdV y).toArray)).run Try.prog w = .ok (decide (x = y)) w := by
  rw [run_eqStruct w (d + 2) _ _ (by kernel_rfl) (by kernel_rfl) (spec := [(true, 33, 0), (true, 3, 1), (true, 3, 2), (true, 9, 3), (true, 9, 4), (true, 3, 5), (true, 35, 6)]) (by kernel_rfl)]
  refine ((eqF_and (p := x.1 = y.1) (q := x.2.1 = y.2.1 ∧ x.2.2.1 = y.2.2.1 ∧ x.2.2.2.1 = y.2.2.2.1 ∧ x.2.2.2.2.1 = y.2.2.2.2.1 ∧ x.2.2.2.2.2.1 = y.2.2.2.2.2.1 ∧ l32 x.2.2.2.2.2.2 = l32 y.2.2.2.2.2.2 ∧ True) (run_part1 (cs := cmdV x) (v := .int .i64 x.1) Try.underlying33 rfl rfl) (run_part1 (cs := cmdV y) (v := .int .i64 y.1) Try.underlying33 rfl rfl) (run_equalIn_intD w (d + 1) _ _ Try.underlying33) (eqF_and (p := x.2.1 = y.2.1) (q := x.2.2.1 = y.2.2.1 ∧ x.2.2.2.1 = y.2.2.2.1 ∧ x.2.2.2.2.1 = y.2.2.2.2.1 ∧ x.2.2.2.2.2.1 = y.2.2.2.2.2.1 ∧ l32 x.2.2.2.2.2.2 = l32 y.2.2.2.2.2.2 ∧ True) (run_part1 (cs := cmdV x) (v := .int .i64 x.2.1) Try.underlying3 rfl rfl) (run_part1 (cs := cmdV y) (v := .int .i64 y.2.1) Try.underlying3 rfl rfl) (run_equalIn_intD w (d + 1) _ _ Try.underlying3) (eqF_and (p := x.2.2.1 = y.2.2.1) (q := x.2.2.2.1 = y.2.2.2.1 ∧ x.2.2.2.2.1 = y.2.2.2.2.1 ∧ x.2.2.2.2.2.1 = y.2.2.2.2.2.1 ∧ l32 x.2.2.2.2.2.2 = l32 y.2.2.2.2.2.2 ∧ True) (run_part1 (cs := cmdV x) (v := .int .i64 x.2.2.1) Try.underlying3 rfl rfl) (run_part1 (cs := cmdV y) (v := .int .i64 y.2.2.1) Try.underlying3 rfl rfl) (run_equalIn_intD w (d + 1) _ _ Try.underlying3) (eqF_and (p := x.2.2.2.1 = y.2.2.2.1) (q := x.2.2.2.2.1 = y.2.2.2.2.1 ∧ x.2.2.2.2.2.1 = y.2.2.2.2.2.1 ∧ l32 x.2.2.2.2.2.2 = l32 y.2.2.2.2.2.2 ∧ True) (run_part1 (cs := cmdV x) (v := .string x.2.2.2.1) Try.underlying9 rfl rfl) (run_part1 (cs := cmdV y) (v := .string y.2.2.2.1) Try.underlying9 rfl rfl) (run_equalIn_strD w (d + 1) _ _ Try.underlying9) (eqF_and (p := x.2.2.2.2.1 = y.2.2.2.2.1) (q := x.2.2.2.2.2.1 = y.2.2.2.2.2.1 ∧ l32 x.2.2.2.2.2.2 = l32 y.2.2.2.2.2.2 ∧ True) (run_part1 (cs := cmdV x) (v := .string x.2.2.2.2.1) Try.underlying9 rfl rfl) (run_part1 (cs := cmdV y) (v := .string y.2.2.2.2.1) Try.underlying9 rfl rfl) (run_equalIn_strD w (d + 1) _ _ Try.underlying9) (eqF_and (p := x.2.2.2.2.2.1 = y.2.2.2.2.2.1) (q := l32 x.2.2.2.2.2.2 = l32 y.2.2.2.2.2.2 ∧ True) (run_part1 (cs := cmdV x) (v := .int .i64 x.2.2.2.2.2.1) Try.underlying3 rfl rfl) (run_part1 (cs := cmdV y) (v := .int .i64 y.2.2.2.2.2.1) Try.underlying3 rfl rfl) (run_equalIn_intD w (d + 1) _ _ Try.underlying3) (eqF_and (p := l32 x.2.2.2.2.2.2 = l32 y.2.2.2.2.2.2) (q := True) (pDg (show (cmdV x).toArray.extract 6 (6 + 32) = (dg (l32 x.2.2.2.2.2.2)).toArray by kernel_rfl)) (pDg (show (cmdV y).toArray.extract 6 (6 + 32) = (dg (l32 y.2.2.2.2.2.2)).toArray by kernel_rfl)) (run_eqDg Try.underlying35 Try.underlying5 szDq (l32_len x.2.2.2.2.2.2) (l32_len y.2.2.2.2.2.2) w (d + 0)) eqF_nil)))))))).trans ?_
  congr 1
  rw [decide_eq_decide]
  constructor
  · rintro ⟨h0, h1, h2, h3, h4, h5, h6, _⟩
    exact (Prod.ext h0 (Prod.ext h1 (Prod.ext h2 (Prod.ext h3 (Prod.ext h4 (Prod.ext h5 (l32_inj h6)))))))
  · rintro rfl
    exact ⟨rfl, rfl, rfl, rfl, rfl, rfl, rfl, trivial⟩
theorem eqCmdDO (x y : Cmd) (w : World) : (Op.equal 37 (.agg (cmdV x).toArray) (.agg (cmdV y).toArray)).run Try.prog w = .ok (decide (x = y)) w := by
  show (Op.equalIn (9997 + 3) _ _ _).run _ w = _
  exact eqCmdD x y w 9997
theorem eqHdD (x y : Hd) (w : World) (d : Nat) : (Op.equalIn (d + 3) 41 (.agg (hdV x).toArray) (.agg (hdV y).toArray)).run Try.prog w = .ok (decide (x = y)) w := by
  rw [run_eqStruct w (d + 2) _ _ (by kernel_rfl) (by kernel_rfl) (spec := [(true, 3, 0), (true, 35, 1), (true, 35, 33)]) (by kernel_rfl)]
  refine ((eqF_and (p := x.1 = y.1) (q := l32 x.2.1 = l32 y.2.1 ∧ l32 x.2.2 = l32 y.2.2 ∧ True) (run_part1 (cs := hdV x) (v := .int .i64 x.1) Try.underlying3 rfl rfl) (run_part1 (cs := hdV y) (v := .int .i64 y.1) Try.underlying3 rfl rfl) (run_equalIn_intD w (d + 1) _ _ Try.underlying3) (eqF_and (p := l32 x.2.1 = l32 y.2.1) (q := l32 x.2.2 = l32 y.2.2 ∧ True) (pDg (show (hdV x).toArray.extract 1 (1 + 32) = (dg (l32 x.2.1)).toArray by kernel_rfl)) (pDg (show (hdV y).toArray.extract 1 (1 + 32) = (dg (l32 y.2.1)).toArray by kernel_rfl)) (run_eqDg Try.underlying35 Try.underlying5 szDq (l32_len x.2.1) (l32_len y.2.1) w (d + 0)) (eqF_and (p := l32 x.2.2 = l32 y.2.2) (q := True) (pDg (show (hdV x).toArray.extract 33 (33 + 32) = (dg (l32 x.2.2)).toArray by kernel_rfl)) (pDg (show (hdV y).toArray.extract 33 (33 + 32) = (dg (l32 y.2.2)).toArray by kernel_rfl)) (run_eqDg Try.underlying35 Try.underlying5 szDq (l32_len x.2.2) (l32_len y.2.2) w (d + 0)) eqF_nil)))).trans ?_
  congr 1
  rw [decide_eq_decide]
  constructor
  · rintro ⟨h0, h1, h2, _⟩
    exact (Prod.ext h0 (Prod.ext (l32_inj h1) (l32_inj h2)))
  · rintro rfl
    exact ⟨rfl, rfl, rfl, trivial⟩
theorem eqHdDO (x y : Hd) (w : World) : (Op.equal 41 (.agg (hdV x).toArray) (.agg (hdV y).toArray)).run Try.prog w = .ok (decide (x = y)) w := by
  show (Op.equalIn (9997 + 3) _ _ _).run _ w = _
  exact eqHdD x y w 9997
theorem eqSgD (x y : Sg) (w : World) (d : Nat) : (Op.equalIn (d + 4) 43 (.agg (sgV x).toArray) (.agg (sgV y).toArray)).run Try.prog w = .ok (decide (x = y)) w := by
  rw [run_eqStruct w (d + 3) _ _ (by kernel_rfl) (by kernel_rfl) (spec := [(true, 41, 0), (true, 35, 65)]) (by kernel_rfl)]
  refine ((eqF_and (p := x.1 = y.1) (q := l32 x.2 = l32 y.2 ∧ True) ((run_partSt' Try.underlying41 (by kernel_rfl : (Try.prog.info? 41).map (·.size) = some 65)).trans (by rw [(show (sgV x).toArray.extract 0 (0 + 65) = (hdV (x.1)).toArray by kernel_rfl)])) ((run_partSt' Try.underlying41 (by kernel_rfl : (Try.prog.info? 41).map (·.size) = some 65)).trans (by rw [(show (sgV y).toArray.extract 0 (0 + 65) = (hdV (y.1)).toArray by kernel_rfl)])) (eqHdD x.1 y.1 w (d + 0)) (eqF_and (p := l32 x.2 = l32 y.2) (q := True) (pDg (show (sgV x).toArray.extract 65 (65 + 32) = (dg (l32 x.2)).toArray by kernel_rfl)) (pDg (show (sgV y).toArray.extract 65 (65 + 32) = (dg (l32 y.2)).toArray by kernel_rfl)) (run_eqDg Try.underlying35 Try.underlying5 szDq (l32_len x.2) (l32_len y.2) w (d + 1)) eqF_nil))).trans ?_
  congr 1
  rw [decide_eq_decide]
  constructor
  · rintro ⟨h0, h1, _⟩
    exact (Prod.ext h0 (l32_inj h1))
  · rintro rfl
    exact ⟨rfl, rfl, trivial⟩
theorem eqSgDO (x y : Sg) (w : World) : (Op.equal 43 (.agg (sgV x).toArray) (.agg (sgV y).toArray)).run Try.prog w = .ok (decide (x = y)) w := by
  show (Op.equalIn (9996 + 4) _ _ _).run _ w = _
  exact eqSgD x y w 9996
theorem elI : ElemOf Try.prog 3 1 8 (.int .i64 0) := elem_of (by kernel_rfl) rfl
theorem elE : ElemOf Try.prog 39 43 168 (.agg (enX en0 spN spN).toArray) := elem_of (by kernel_rfl) (by kernel_rfl)
theorem elG : ElemOf Try.prog 43 97 104 (.agg (sgV sg0).toArray) := elem_of (by kernel_rfl) (by kernel_rfl)
/-- The greatest of a row. -/
def maxI : Int → List Int → Int
  | m, [] => m
  | m, x :: r => maxI (if m < x then x else m) r
theorem maxI_step (m : Int) : ∀ (l : List Int) (i : Nat), i < l.length → maxI m (l.take (i + 1)) = (if maxI m (l.take i) < l.getD i 0 then l.getD i 0 else maxI m (l.take i))
  | [], i, h => by simp at h
  | x :: l, 0, h => rfl
  | x :: l, i + 1, h => by
    show maxI _ (l.take (i + 1)) = _
    rw [maxI_step _ l i (by simpa using h)]
    rfl
def farL (l : List Int) : Bool := decide (900000000 < maxI (l.getD 0 0) (l.drop 1))
theorem far_1 (a : Int) : farL [a] = decide (far a) := rfl
theorem far_2 (a b : Int) : farL [a, b] = true ↔ far a ∨ far b := by
  show decide (900000000 < (if a < b then b else a)) = true ↔ _
  rw [decide_eq_true_eq]
  split <;> omega
theorem far_3 (a b c : Int) : farL [a, b, c] = true ↔ far a ∨ far b ∨ far c := by
  show decide (900000000 < (if (if a < b then b else a) < c then c else (if a < b then b else a))) = true ↔ _
  rw [decide_eq_true_eq]
  split <;> split at * <;> omega
theorem sz3p : (Try.prog.info? 3).map (·.size) = some 1 := by kernel_rfl
theorem sz9p : (Try.prog.info? 9).map (·.size) = some 1 := by kernel_rfl
theorem sz22p : (Try.prog.info? 22).map (·.size) = some 1 := by kernel_rfl
theorem sz24p : (Try.prog.info? 24).map (·.size) = some 2 := by kernel_rfl
theorem sz32p : (Try.prog.info? 32).map (·.size) = some 1 := by kernel_rfl
theorem sz37p : (Try.prog.info? 37).map (·.size) = some 38 := by kernel_rfl
theorem tx36p : Txt Try.prog 36 := txt_of Try.func36 rfl (by kernel_rfl)
theorem tx37p : Txt Try.prog 37 := txt_of Try.func37 rfl (by kernel_rfl)

theorem max_w (s : Sp) (l : List Int) (w : World) (f1 : FA w (factC 1 (.slice s.1 l.length s.2) l.length (ints l))) (hl : 1 ≤ l.length) (hB : l.length ≤ 100) :
    Calls Try.prog 36 #[.slice s.1 l.length s.2] w fun e w' => e = .returned (.int .i64 (maxI (l.getD 0 0) (l.drop 1))) ∧ Fr [] w w' := by
  refine calls_of (args := [.slice s.1 l.length s.2]) ([]) ([]) ([factC 1 (.slice s.1 l.length s.2) l.length (ints l)]) Try.func36 rfl rfl (okFW (.cons f1 .nil)) ?_
  refine J_seq ?_
  refine J_region ?_
  refine L_v rfl rfl rfl (V_assign rfl rfl) ?_
  refine L_nil ?_
  change J _ _ _ _
  refine J_seq ?_
  refine J_seq ?_
  refine J_region ?_
  refine L_v rfl rfl rfl (V_move rfl rfl) ?_
  refine L_v rfl rfl rfl (V_len rfl rfl Try.underlying22 rfl) ?_
  refine L_v rfl rfl rfl (V_lss rfl rfl rfl (by first | exact decide_eq_true (by omega) | exact decide_eq_false (by omega) | rfl)) ?_
  refine L_nil ?_
  change J _ _ _ _
  refine J_false rfl ?_
  refine J_skip ?_
  change J _ _ _ _
  refine J_seq ?_
  refine J_region ?_
  refine L_v rfl rfl rfl (V_move rfl rfl) ?_
  refine L_v rfl rfl rfl (V_indexC rfl rfl rfl Try.underlying22 sz3p (fun w hw => (hw.fa 0 rfl).1) (by omega) (by omega)) ?_
  refine L_v rfl rfl rfl (V_loadC rfl rfl Try.underlying3 rfl (fun w hw => (hw.fa 0 rfl).1) (rows_1 (i := 0) (by omega))) ?_
  refine L_v rfl rfl rfl (V_assign rfl rfl) ?_
  refine L_nil ?_
  change J _ _ _ _
  refine J_seq ?_
  refine J_seq ?_
  refine J_region ?_
  refine L_v rfl rfl rfl (V_assign rfl rfl) ?_
  refine L_nil ?_
  change J _ _ _ _
  refine J_block ?_
  refine J_loop (X := Nat) (fun i => { env := [(0, .slice s.1 l.length s.2), (3, .int .i64 (maxI (l.getD 0 0) ((l.drop 1).take i))), (4, .int .i64 ((i + 1 : Nat) : Int))], mem := [], facts := [factC 1 (.slice s.1 l.length s.2) l.length (ints l)] }) (fun i => i + 1 ≤ l.length) (fun i => l.length - i) 0 (by show 0 + 1 ≤ l.length; omega) ⟨⟨rfl, rfl, rfl, trivial⟩, List.Sublist.refl _, fun f hf => hf, rfl⟩ ?_
  rintro i hi
  refine J_seq ?_
  refine J_seq ?_
  refine J_region ?_
  refine L_v rfl rfl rfl (V_move rfl rfl) ?_
  refine L_v rfl rfl rfl (V_move rfl rfl) ?_
  refine L_v rfl rfl rfl (V_len rfl rfl Try.underlying22 rfl) ?_
  refine L_v rfl rfl rfl (V_lss rfl rfl rfl (by first | exact decide_eq_true (by omega) | exact decide_eq_false (by omega) | rfl)) ?_
  refine L_nil ?_
  change J _ _ _ _
  refine J_cond rfl (fun h1 => ?_) (fun h1 => ?_)
  ·
    first | (have h1 := of_decide_eq_true h1) | (have h1 := of_decide_eq_false h1) | skip
    have hgd : (l.drop 1).getD i 0 = l.getD (i + 1) 0 := by rw [List.getD_eq_getElem?_getD, List.getD_eq_getElem?_getD, List.getElem?_drop, Nat.add_comm]
    refine J_skip ?_
    change J _ _ _ _
    refine J_seq ?_
    refine J_block ?_
    refine J_region ?_
    refine L_v rfl rfl rfl (V_move rfl rfl) ?_
    refine L_v rfl rfl rfl (V_move rfl rfl) ?_
    refine L_v rfl rfl rfl (V_move rfl rfl) ?_
    refine L_v rfl rfl rfl (V_indexC rfl rfl rfl Try.underlying22 sz3p (fun w hw => (hw.fa 0 rfl).1) (by omega) (by omega)) ?_
    refine L_v rfl rfl rfl (V_loadC rfl rfl Try.underlying3 rfl (fun w hw => (hw.fa 0 rfl).1) (rows_1 (i := i + 1) (by omega))) ?_
    refine L_v rfl rfl rfl (V_max rfl rfl rfl rfl) ?_
    refine L_v rfl rfl rfl (V_assign rfl rfl) ?_
    refine L_nil ?_
    change J _ _ _ _
    refine J_region ?_
    refine L_v rfl rfl rfl (V_move rfl rfl) ?_
    refine L_v rfl rfl rfl (V_add rfl rfl rfl (by first | exact Go.IntWalk.i64_in _ (by omega) | rfl)) ?_
    refine L_v rfl rfl rfl (V_assign rfl rfl) ?_
    refine L_nil ?_
    exact ⟨i + 1, by show i + 1 + 1 ≤ l.length; omega, by show l.length - (i + 1) < l.length - i; omega, ⟨rfl, (by show _ = some (Value.int .i64 (maxI (l.getD 0 0) ((l.drop 1).take (i + 1)))); rw [maxI_step _ _ _ (by rw [List.length_drop]; omega), hgd]; rfl), (by show _ = some (Value.int .i64 ((i + 1 + 1 : Nat) : Int)); rw [show ((i + 1 + 1 : Nat) : Int) = ((i + 1 : Nat) : Int) + 1 by omega]; rfl), trivial⟩, List.Sublist.refl _, fun f hf => hf, rfl⟩
  ·
    first | (have h1 := of_decide_eq_true h1) | (have h1 := of_decide_eq_false h1) | skip
    refine J_exit ?_
    change J _ _ _ _
    refine J_seq ?_
    refine J_region ?_
    refine L_v rfl rfl rfl (V_move rfl rfl) ?_
    refine L_v rfl rfl rfl (V_assign rfl rfl) ?_
    refine L_nil ?_
    change J _ _ _ _
    refine J_ret ?_
    change Kret _ _ _ Exit.ret _
    refine ret1 rfl rfl (RV_t rfl) ?_
    exact fun w' h => ⟨congrArg (fun b => Ending.returned (Value.int .i64 b)) (by rw [List.take_of_length_le (by rw [List.length_drop]; omega)]), h.fr⟩

theorem far_w (s : Sp) (l : List Int) (w : World) (f1 : FA w (factC 1 (.slice s.1 l.length s.2) l.length (ints l))) (hl : 1 ≤ l.length) (hB : l.length ≤ 100) :
    Calls Try.prog 18 #[.slice s.1 l.length s.2] w fun e w' => e = .returned (.bool (farL l)) ∧ Fr [] w w' := by
  refine calls_of (args := [.slice s.1 l.length s.2]) ([]) ([]) ([factC 1 (.slice s.1 l.length s.2) l.length (ints l)]) Try.func18 rfl rfl (okFW (.cons f1 .nil)) ?_
  refine J_seq ?_
  refine J_region ?_
  refine L_v rfl rfl rfl (V_assign rfl rfl) ?_
  refine L_nil ?_
  change J _ _ _ _
  refine J_seq ?_
  refine J_region ?_
  refine L_v rfl rfl rfl (V_move rfl rfl) ?_
  refine L_callV rfl rfl rfl rfl rfl rfl tx36p (fun w1 hw => max_w s l w1 (hw.fa 0 rfl) hl hB) ?_
  refine L_v rfl rfl rfl (V_gtr rfl rfl rfl rfl) ?_
  refine L_v rfl rfl rfl (V_assign rfl rfl) ?_
  refine L_nil ?_
  change J _ _ _ _
  refine J_ret ?_
  change Kret _ _ _ Exit.ret _
  refine ret1 rfl rfl (RV_t rfl) ?_
  exact fun w' h => ⟨rfl, h.fr⟩

theorem noCouncil_w (x : Cl) (a b : Sp) (w : World) (hB : x.1.length ≤ 17592186044416 ∧ x.2.length ≤ 17592186044416) :
    Calls Try.prog 37 #[.agg (clX x a b).toArray] w fun e w' => e = .returned (.bool (decide (x = ([], [])))) ∧ Fr [] w w' := by
  refine calls_of (args := [.agg (clX x a b).toArray]) ([]) ([]) ([]) Try.func37 rfl rfl (okW0 _ _ _ _) ?_
  refine J_seq ?_
  refine J_region ?_
  refine L_box rfl rfl rfl rfl rfl (fun b0 => ?_)
  refine L_v rfl rfl rfl (V_assign rfl rfl) ?_
  refine L_nil ?_
  change J _ _ _ _
  refine J_seq ?_
  refine J_region ?_
  refine L_v rfl rfl rfl (V_fieldAddr rfl rfl Try.underlying24 rfl sz22p rfl) ?_
  refine L_v rfl rfl rfl (V_load1 0 rfl rfl rfl Try.underlying22 rfl (by rfl)) ?_
  refine L_v rfl rfl rfl (V_len rfl rfl Try.underlying22 rfl) ?_
  refine L_v rfl rfl rfl (V_fieldAddr rfl rfl Try.underlying24 rfl sz22p rfl) ?_
  refine L_v rfl rfl rfl (V_load1 0 rfl rfl rfl Try.underlying22 rfl (by rfl)) ?_
  refine L_v rfl rfl rfl (V_len rfl rfl Try.underlying22 rfl) ?_
  refine L_v rfl rfl rfl (V_add rfl rfl rfl (by first | exact Go.IntWalk.i64_in _ (by omega) | rfl)) ?_
  refine L_v rfl rfl rfl (V_eql rfl rfl rfl rfl) ?_
  refine L_v rfl rfl rfl (V_assign rfl rfl) ?_
  refine L_nil ?_
  change J _ _ _ _
  refine J_ret ?_
  change Kret _ _ _ Exit.ret _
  refine ret1 rfl rfl (RV_t rfl) ?_
  exact fun w' h => ⟨congrArg (fun b => Ending.returned (Value.bool b)) (Bool.eq_iff_iff.2 (by simp only [Bool.and_eq_true, Bool.or_eq_true, decide_eq_true_eq, beq_iff_eq]; obtain ⟨x1, x2⟩ := x; simp only [Prod.mk.injEq, ← List.length_eq_zero_iff]; omega)), h.fr⟩

theorem noSnap_w (x : Sn) (a b : Sp) (w : World) (hB : x.2.2.1.1.length ≤ 17592186044416 ∧ x.2.2.1.2.length ≤ 17592186044416) :
    Calls Try.prog 19 #[.agg (snX x a b).toArray] w fun e w' => e = .returned (.bool (decide (x = sn0))) ∧ Fr [] w w' := by
  refine calls_of (args := [.agg (snX x a b).toArray]) ([]) ([]) ([]) Try.func19 rfl rfl (okW0 _ _ _ _) ?_
  refine J_seq ?_
  refine J_region ?_
  refine L_box rfl rfl rfl rfl rfl (fun b0 => ?_)
  refine L_v rfl rfl rfl (V_assign rfl rfl) ?_
  refine L_nil ?_
  change J _ _ _ _
  refine J_seq ?_
  refine J_region ?_
  refine L_v rfl rfl rfl (V_fieldAddr rfl rfl Try.underlying26 rfl sz3p rfl) ?_
  refine L_v rfl rfl rfl (V_load1 0 rfl rfl rfl Try.underlying3 rfl (by rfl)) ?_
  refine L_v rfl rfl rfl (V_eql rfl rfl rfl rfl) ?_
  refine L_v rfl rfl rfl (V_move rfl rfl) ?_
  apply L_and 3 6 10
  · rfl
  · rfl
  · rfl
  · rfl
  · rfl
  · rfl
  · rfl
  · kernel_rfl
  · intro hb1 _ _ hk1
    refine L_wv rfl rfl rfl rfl rfl rfl (V_fieldAddr rfl rfl Try.underlying26 rfl sz3p rfl) ?_
    refine L_wv rfl rfl rfl rfl rfl rfl (V_load1 0 rfl rfl rfl Try.underlying3 rfl (by rfl)) ?_
    refine L_wv rfl rfl rfl rfl rfl rfl (V_eql rfl rfl rfl rfl) ?_
    exact hk1 _ ⟨rfl, rfl, rfl, rfl, ext_cut 3 (by kernel_rfl) (by kernel_rfl)⟩
  refine L_v rfl rfl rfl (V_move rfl rfl) ?_
  apply L_and 3 11 15
  · rfl
  · rfl
  · rfl
  · rfl
  · rfl
  · rfl
  · rfl
  · kernel_rfl
  · intro hb2 _ _ hk2
    refine L_wv rfl rfl rfl rfl rfl rfl (V_fieldAddr rfl rfl Try.underlying26 rfl sz9p rfl) ?_
    refine L_wv rfl rfl rfl rfl rfl rfl (V_load1 0 rfl rfl rfl Try.underlying9 rfl (by rfl)) ?_
    refine L_wv rfl rfl rfl rfl rfl rfl (V_eqS rfl rfl rfl rfl) ?_
    exact hk2 _ ⟨rfl, rfl, rfl, rfl, ext_cut 3 (by kernel_rfl) (by kernel_rfl)⟩
  refine L_v rfl rfl rfl (V_move rfl rfl) ?_
  apply L_and 3 16 20
  · rfl
  · rfl
  · rfl
  · rfl
  · rfl
  · rfl
  · rfl
  · kernel_rfl
  · intro hb3 _ _ hk3
    refine L_wv rfl rfl rfl rfl rfl rfl (V_fieldAddr rfl rfl Try.underlying26 rfl sz24p rfl) ?_
    refine L_wv rfl rfl rfl rfl rfl rfl (V_loadT 0 (vs := clX x.2.2.1 a b) rfl rfl rfl Try.underlying24 rfl sz24p (by kernel_rfl) (by kernel_rfl)) ?_
    refine L_wcallV rfl rfl rfl rfl rfl rfl rfl rfl rfl tx37p (fun w1 hw => noCouncil_w x.2.2.1 a b w1 hB) ?_
    exact hk3 _ ⟨rfl, rfl, rfl, rfl, ext_cut 3 (by kernel_rfl) (by kernel_rfl)⟩
  refine L_v rfl rfl rfl (V_assign rfl rfl) ?_
  refine L_nil ?_
  change J _ _ _ _
  refine J_ret ?_
  change Kret _ _ _ Exit.ret _
  refine ret1 rfl rfl (RV_t rfl) ?_
  exact fun w' h => ⟨congrArg (fun b => Ending.returned (Value.bool b)) (Bool.eq_iff_iff.2 (by simp only [Bool.and_eq_true, Bool.or_eq_true, decide_eq_true_eq, beq_iff_eq]; obtain ⟨x1, x2, x3, x4⟩ := x; simp only [sn0, Prod.mk.injEq]; grind)), h.fr⟩

theorem noEntry_w (x : En) (a b : Sp) (w : World) (hB : x.2.2.2.2.1.length ≤ 17592186044416 ∧ x.2.2.2.2.2.length ≤ 17592186044416) :
    Calls Try.prog 62 #[.agg (enX x a b).toArray] w fun e w' => e = .returned (.bool (decide (x = en0))) ∧ Fr [] w w' := by
  refine calls_of (args := [.agg (enX x a b).toArray]) ([]) ([]) ([]) Try.func62 rfl rfl (okW0 _ _ _ _) ?_
  refine J_seq ?_
  refine J_region ?_
  refine L_box rfl rfl rfl rfl rfl (fun b0 => ?_)
  refine L_v rfl rfl rfl (V_assign rfl rfl) ?_
  refine L_nil ?_
  change J _ _ _ _
  refine J_seq ?_
  refine J_region ?_
  refine L_v rfl rfl rfl (V_fieldAddr rfl rfl Try.underlying39 rfl sz3p rfl) ?_
  refine L_v rfl rfl rfl (V_load1 0 rfl rfl rfl Try.underlying3 rfl (by rfl)) ?_
  refine L_v rfl rfl rfl (V_eql rfl rfl rfl rfl) ?_
  refine L_v rfl rfl rfl (V_move rfl rfl) ?_
  apply L_and 3 6 10
  · rfl
  · rfl
  · rfl
  · rfl
  · rfl
  · rfl
  · rfl
  · kernel_rfl
  · intro hb1 _ _ hk1
    refine L_wv rfl rfl rfl rfl rfl rfl (V_fieldAddr rfl rfl Try.underlying39 rfl sz3p rfl) ?_
    refine L_wv rfl rfl rfl rfl rfl rfl (V_load1 0 rfl rfl rfl Try.underlying3 rfl (by rfl)) ?_
    refine L_wv rfl rfl rfl rfl rfl rfl (V_eql rfl rfl rfl rfl) ?_
    exact hk1 _ ⟨rfl, rfl, rfl, rfl, ext_cut 3 (by kernel_rfl) (by kernel_rfl)⟩
  refine L_v rfl rfl rfl (V_move rfl rfl) ?_
  apply L_and 3 11 15
  · rfl
  · rfl
  · rfl
  · rfl
  · rfl
  · rfl
  · rfl
  · kernel_rfl
  · intro hb2 _ _ hk2
    refine L_wv rfl rfl rfl rfl rfl rfl (V_fieldAddr rfl rfl Try.underlying39 rfl sz32p rfl) ?_
    refine L_wv rfl rfl rfl rfl rfl rfl (V_load1 0 rfl rfl rfl Try.underlying32 rfl (by rfl)) ?_
    refine L_wv rfl rfl rfl rfl rfl rfl (V_eql rfl rfl rfl rfl) ?_
    exact hk2 _ ⟨rfl, rfl, rfl, rfl, ext_cut 3 (by kernel_rfl) (by kernel_rfl)⟩
  refine L_v rfl rfl rfl (V_move rfl rfl) ?_
  apply L_and 4 16 21
  · rfl
  · rfl
  · rfl
  · rfl
  · rfl
  · rfl
  · rfl
  · kernel_rfl
  · intro hb3 _ _ hk3
    refine L_wv rfl rfl rfl rfl rfl rfl (V_fieldAddr rfl rfl Try.underlying39 rfl sz37p rfl) ?_
    refine L_wv rfl rfl rfl rfl rfl rfl (V_loadT 0 (vs := cmdV x.2.2.2.1) rfl rfl rfl Try.underlying37 rfl sz37p (by kernel_rfl) (by kernel_rfl)) ?_
    refine L_wv rfl rfl rfl rfl rfl rfl (V_buildE (v := .agg (cmdV cmd0).toArray) rfl rfl (fun w => by kernel_rfl)) ?_
    refine L_wv rfl rfl rfl rfl rfl rfl (V_eqAgg rfl rfl rfl (by kernel_rfl : Try.prog.eqGuardType Try.prog.depth 37 = false) (fun w => eqCmdDO _ _ w) rfl) ?_
    exact hk3 _ ⟨rfl, rfl, rfl, rfl, ext_cut 4 (by kernel_rfl) (by kernel_rfl)⟩
  refine L_v rfl rfl rfl (V_move rfl rfl) ?_
  apply L_and 3 22 26
  · rfl
  · rfl
  · rfl
  · rfl
  · rfl
  · rfl
  · rfl
  · kernel_rfl
  · intro hb4 _ _ hk4
    refine L_wv rfl rfl rfl rfl rfl rfl (V_fieldAddr rfl rfl Try.underlying39 rfl sz24p rfl) ?_
    refine L_wv rfl rfl rfl rfl rfl rfl (V_loadT 0 (vs := clX x.2.2.2.2 a b) rfl rfl rfl Try.underlying24 rfl sz24p (by kernel_rfl) (by kernel_rfl)) ?_
    refine L_wcallV rfl rfl rfl rfl rfl rfl rfl rfl rfl tx37p (fun w1 hw => noCouncil_w x.2.2.2.2 a b w1 hB) ?_
    exact hk4 _ ⟨rfl, rfl, rfl, rfl, ext_cut 3 (by kernel_rfl) (by kernel_rfl)⟩
  refine L_v rfl rfl rfl (V_assign rfl rfl) ?_
  refine L_nil ?_
  change J _ _ _ _
  refine J_ret ?_
  change Kret _ _ _ Exit.ret _
  refine ret1 rfl rfl (RV_t rfl) ?_
  exact fun w' h => ⟨congrArg (fun b => Ending.returned (Value.bool b)) (Bool.eq_iff_iff.2 (by simp only [Bool.and_eq_true, Bool.or_eq_true, decide_eq_true_eq, beq_iff_eq]; obtain ⟨x1, x2, x3, x4, x5⟩ := x; simp only [en0, Prod.mk.injEq]; grind)), h.fr⟩

theorem cloneI_w (s : Sp) (l : List Int) (w : World) (f1 : FA w (factC 1 (.slice s.1 l.length s.2) l.length (ints l))) (hB : l.length ≤ 17592186044416) :
    Calls Try.prog 79 #[.slice s.1 l.length s.2] w fun e w' => ∃ q : OwnR, e = .returned (ownV q l.length) ∧ Fr [] w w' ∧ NewO 3 1 w w' q l.length (ints l) := by
  refine calls_of (args := [.slice s.1 l.length s.2]) ([]) ([]) ([factC 1 (.slice s.1 l.length s.2) l.length (ints l)]) Try.func79 rfl rfl (okFW (.cons f1 .nil)) ?_
  refine J_seq ?_
  refine J_region ?_
  refine L_v rfl rfl rfl (V_assign rfl rfl) ?_
  refine L_nil ?_
  change J _ _ _ _
  refine J_seq ?_
  refine J_seq ?_
  refine J_region ?_
  refine L_v rfl rfl rfl (V_move rfl rfl) ?_
  refine L_v rfl rfl rfl (V_eqN rfl rfl rfl Try.underlying22 rfl) ?_
  refine L_nil ?_
  change J _ _ _ _
  refine J_cond rfl (fun h1 => ?_) (fun h1 => ?_)
  ·
    first | (have h1 := of_decide_eq_true h1) | (have h1 := of_decide_eq_false h1) | skip
    refine J_seq ?_
    refine J_region ?_
    refine L_v rfl rfl rfl (V_assign rfl rfl) ?_
    refine L_nil ?_
    change J _ _ _ _
    refine J_ret ?_
    change Kret _ _ _ Exit.ret _
    refine ret1 rfl rfl (RV_t rfl) ?_
    have hz := f1.nilC (Option.isNone_iff_eq_none.1 h1)
    exact fun w' h => ⟨none, by rw [hz.1]; rfl, h.fr, NewO.of h rfl (show OwnC 1 none l.length (ints l) from ⟨hz.1, hz.2⟩) (fun x hx => by cases hx)⟩
  ·
    first | (have h1 := of_decide_eq_true h1) | (have h1 := of_decide_eq_false h1) | skip
    refine J_skip ?_
    change J _ _ _ _
    refine J_seq ?_
    refine J_region ?_
    refine L_buildSlice (e := 3) (vs := []) (l := []) rfl rfl rfl rfl rfl (fun w => by kernel_rfl) (fun b0 => ?_)
    refine L_v rfl rfl rfl (V_move rfl rfl) ?_
    refine L_appL [] (some (b0, 0, [])) [] (n := 0) (m := l.length) (n' := l.length) (news := ints l) (ks' := ints l) rfl rfl rfl rfl rfl Try.underlying22 elI rfl ⟨rfl, Nat.le_refl _, rfl⟩ (fun w1 hw => src_C Try.underlying22 (hw.fa 0 rfl).1 (one_ints l)) (Nat.zero_add _) (List.nil_append _) (by omega) (by omega) (fun q1 hq1 => ?_)
    refine L_v rfl rfl rfl (V_assign rfl rfl) ?_
    refine L_nil ?_
    change J _ _ _ _
    refine J_ret ?_
    change Kret _ _ _ Exit.ret _
    refine ret1 rfl rfl (RV_t rfl) ?_
    exact fun w' h => ⟨q1, rfl, h.fr, NewO.of h rfl hq1 (fun x hx => hx)⟩

theorem cloneE_w (s : Sp) (l : List EnV) (w : World) (f1 : FA w (factC 43 (.slice s.1 l.length s.2) l.length ((l.map enW).flatten))) (hB : l.length ≤ 549755813888) :
    Calls Try.prog 61 #[.slice s.1 l.length s.2] w fun e w' => ∃ q : OwnR, e = .returned (ownV q l.length) ∧ Fr [] w w' ∧ NewO 39 43 w w' q l.length ((l.map enW).flatten) := by
  refine calls_of (args := [.slice s.1 l.length s.2]) ([]) ([]) ([factC 43 (.slice s.1 l.length s.2) l.length ((l.map enW).flatten)]) Try.func61 rfl rfl (okFW (.cons f1 .nil)) ?_
  refine J_seq ?_
  refine J_region ?_
  refine L_v rfl rfl rfl (V_assign rfl rfl) ?_
  refine L_nil ?_
  change J _ _ _ _
  refine J_seq ?_
  refine J_seq ?_
  refine J_region ?_
  refine L_v rfl rfl rfl (V_move rfl rfl) ?_
  refine L_v rfl rfl rfl (V_eqN rfl rfl rfl Try.underlying27 rfl) ?_
  refine L_nil ?_
  change J _ _ _ _
  refine J_cond rfl (fun h1 => ?_) (fun h1 => ?_)
  ·
    first | (have h1 := of_decide_eq_true h1) | (have h1 := of_decide_eq_false h1) | skip
    refine J_seq ?_
    refine J_region ?_
    refine L_v rfl rfl rfl (V_assign rfl rfl) ?_
    refine L_nil ?_
    change J _ _ _ _
    refine J_ret ?_
    change Kret _ _ _ Exit.ret _
    refine ret1 rfl rfl (RV_t rfl) ?_
    have hz := f1.nilC (Option.isNone_iff_eq_none.1 h1)
    exact fun w' h => ⟨none, by rw [hz.1]; rfl, h.fr, NewO.of h rfl (show OwnC 43 none l.length ((l.map enW).flatten) from ⟨hz.1, hz.2⟩) (fun x hx => by cases hx)⟩
  ·
    first | (have h1 := of_decide_eq_true h1) | (have h1 := of_decide_eq_false h1) | skip
    refine J_skip ?_
    change J _ _ _ _
    refine J_seq ?_
    refine J_region ?_
    refine L_buildSlice (e := 39) (vs := []) (l := []) rfl rfl rfl rfl rfl (fun w => by kernel_rfl) (fun b0 => ?_)
    refine L_v rfl rfl rfl (V_move rfl rfl) ?_
    refine L_appL [] (some (b0, 0, [])) [] (n := 0) (m := l.length) (n' := l.length) (news := (l.map enW).flatten) (ks' := (l.map enW).flatten) rfl rfl rfl rfl rfl Try.underlying27 elE rfl ⟨rfl, Nat.le_refl _, rfl⟩ (fun w1 hw => src_C Try.underlying27 (hw.fa 0 rfl).1 (one_map (fun _ => by kernel_rfl) l)) (Nat.zero_add _) (List.nil_append _) (by omega) (by omega) (fun q1 hq1 => ?_)
    refine L_v rfl rfl rfl (V_assign rfl rfl) ?_
    refine L_nil ?_
    change J _ _ _ _
    refine J_ret ?_
    change Kret _ _ _ Exit.ret _
    refine ret1 rfl rfl (RV_t rfl) ?_
    exact fun w' h => ⟨q1, rfl, h.fr, NewO.of h rfl hq1 (fun x hx => hx)⟩

theorem cloneG_w (s : Sp) (l : List Sg) (w : World) (f1 : FA w (factC 97 (.slice s.1 l.length s.2) l.length ((l.map sgV).flatten))) (hB : l.length ≤ 549755813888) :
    Calls Try.prog 45 #[.slice s.1 l.length s.2] w fun e w' => ∃ q : OwnR, e = .returned (ownV q l.length) ∧ Fr [] w w' ∧ NewO 43 97 w w' q l.length ((l.map sgV).flatten) := by
  refine calls_of (args := [.slice s.1 l.length s.2]) ([]) ([]) ([factC 97 (.slice s.1 l.length s.2) l.length ((l.map sgV).flatten)]) Try.func45 rfl rfl (okFW (.cons f1 .nil)) ?_
  refine J_seq ?_
  refine J_region ?_
  refine L_v rfl rfl rfl (V_assign rfl rfl) ?_
  refine L_nil ?_
  change J _ _ _ _
  refine J_seq ?_
  refine J_seq ?_
  refine J_region ?_
  refine L_v rfl rfl rfl (V_move rfl rfl) ?_
  refine L_v rfl rfl rfl (V_eqN rfl rfl rfl Try.underlying28 rfl) ?_
  refine L_nil ?_
  change J _ _ _ _
  refine J_cond rfl (fun h1 => ?_) (fun h1 => ?_)
  ·
    first | (have h1 := of_decide_eq_true h1) | (have h1 := of_decide_eq_false h1) | skip
    refine J_seq ?_
    refine J_region ?_
    refine L_v rfl rfl rfl (V_assign rfl rfl) ?_
    refine L_nil ?_
    change J _ _ _ _
    refine J_ret ?_
    change Kret _ _ _ Exit.ret _
    refine ret1 rfl rfl (RV_t rfl) ?_
    have hz := f1.nilC (Option.isNone_iff_eq_none.1 h1)
    exact fun w' h => ⟨none, by rw [hz.1]; rfl, h.fr, NewO.of h rfl (show OwnC 97 none l.length ((l.map sgV).flatten) from ⟨hz.1, hz.2⟩) (fun x hx => by cases hx)⟩
  ·
    first | (have h1 := of_decide_eq_true h1) | (have h1 := of_decide_eq_false h1) | skip
    refine J_skip ?_
    change J _ _ _ _
    refine J_seq ?_
    refine J_region ?_
    refine L_buildSlice (e := 43) (vs := []) (l := []) rfl rfl rfl rfl rfl (fun w => by kernel_rfl) (fun b0 => ?_)
    refine L_v rfl rfl rfl (V_move rfl rfl) ?_
    refine L_appL [] (some (b0, 0, [])) [] (n := 0) (m := l.length) (n' := l.length) (news := (l.map sgV).flatten) (ks' := (l.map sgV).flatten) rfl rfl rfl rfl rfl Try.underlying28 elG rfl ⟨rfl, Nat.le_refl _, rfl⟩ (fun w1 hw => src_C Try.underlying28 (hw.fa 0 rfl).1 (one_map (fun _ => by kernel_rfl) l)) (Nat.zero_add _) (List.nil_append _) (by omega) (by omega) (fun q1 hq1 => ?_)
    refine L_v rfl rfl rfl (V_assign rfl rfl) ?_
    refine L_nil ?_
    change J _ _ _ _
    refine J_ret ?_
    change Kret _ _ _ Exit.ret _
    refine ret1 rfl rfl (RV_t rfl) ?_
    exact fun w' h => ⟨q1, rfl, h.fr, NewO.of h rfl hq1 (fun x hx => hx)⟩

end Go.Proofs.Ytcdenfkbhefbbaa
