/- Are two messages the same? -/
import Derived.Test.YtfdmjjhgdbpfeaaMsgPure
import Derived.Test.YtfdmjjhgdbpfeaaProg
set_option linter.unusedVariables false
set_option linter.unusedSimpArgs false
set_option maxRecDepth 100000
namespace Go.Proofs.Ytfdmjjhgdbpfeaa
open Go.Sx
theorem szDq : (Try.prog.info? 5).map (·.size) = some 1 := by kernel_rfl
theorem szDg : (Try.prog.info? 29).map (·.size) = some 32 := by kernel_rfl
theorem pDg {cs : Array Value} {off : Nat} {f : Dg} {w : World} (h : cs.extract off (off + 32) = (dg (l32 f)).toArray) : (part 29 cs off).run Try.prog w = .ok (.agg (dg (l32 f)).toArray) w := by rw [run_partArr Try.underlying29 szDg, h]
theorem eqDgD (x y : Dg) (w : World) (d : Nat) : (Op.equalIn (d + 2) 29 (.agg (dg (l32 x)).toArray) (.agg (dg (l32 y)).toArray)).run Try.prog w = .ok (decide (x = y)) w := by
  refine (run_eqDg Try.underlying29 Try.underlying5 szDq (l32_len x) (l32_len y) w d).trans ?_
  congr 1
  rw [decide_eq_decide, l32_iff]
theorem eqDgDO (x y : Dg) (w : World) : (Op.equal 29 (.agg (dgM x).toArray) (.agg (dgM y).toArray)).run Try.prog w = .ok (decide (x = y)) w := by
  show (Op.equalIn (9998 + 2) _ _ _).run _ w = _
  exact eqDgD x y w 9998
abbrev Pl := Int × Int × Int × Int × Int × ByteArray × Cmd
def plM (p : Pl) : List Value := [mi p.1, mi p.2.1, mi p.2.2.1, mi p.2.2.2.1, mi p.2.2.2.2.1, .string p.2.2.2.2.2.1] ++ cmdM p.2.2.2.2.2.2
instance j1 : DecidableEq (ByteArray × Cmd) := instDecidableEqProd
instance j2 : DecidableEq (Int × Int × ByteArray × Cmd) := instDecidableEqProd
instance j3 : DecidableEq Pl := instDecidableEqProd
def en0 : En := (0, 0, 0, cmd0, ([], []))
def env0 : EnV := (en0, slN, slN)
def vr0 : Vr := (0, 0, ⟨#[]⟩)
theorem eqCmdD (x y : Cmd) (w : World) (d : Nat) : (Op.equalIn (d + 3) 31 (.agg (cmdM x).toArray) (.agg (cmdM y).toArray)).run Try.prog w = .ok (decide (x = y)) w := by
  rw [run_eqStruct w (d + 2) _ _ (by kernel_rfl) (by kernel_rfl) (spec := [(true, 27, 0), (true, 3, 1), (true, 3, 2), (true, 9, 3), (true, 9, 4), (true, 3, 5), (true, 29, 6)]) (by kernel_rfl)]
  refine ((eqF_and (p := x.1 = y.1) (q := x.2.1 = y.2.1 ∧ x.2.2.1 = y.2.2.1 ∧ x.2.2.2.1 = y.2.2.2.1 ∧ x.2.2.2.2.1 = y.2.2.2.2.1 ∧ x.2.2.2.2.2.1 = y.2.2.2.2.2.1 ∧ l32 x.2.2.2.2.2.2 = l32 y.2.2.2.2.2.2 ∧ True) (run_part1 (cs := cmdM x) (v := .int .i64 x.1) Try.underlying27 rfl rfl) (run_part1 (cs := cmdM y) (v := .int .i64 y.1) Try.underlying27 rfl rfl) (run_equalIn_intD w (d + 1) _ _ Try.underlying27) (eqF_and (p := x.2.1 = y.2.1) (q := x.2.2.1 = y.2.2.1 ∧ x.2.2.2.1 = y.2.2.2.1 ∧ x.2.2.2.2.1 = y.2.2.2.2.1 ∧ x.2.2.2.2.2.1 = y.2.2.2.2.2.1 ∧ l32 x.2.2.2.2.2.2 = l32 y.2.2.2.2.2.2 ∧ True) (run_part1 (cs := cmdM x) (v := .int .i64 x.2.1) Try.underlying3 rfl rfl) (run_part1 (cs := cmdM y) (v := .int .i64 y.2.1) Try.underlying3 rfl rfl) (run_equalIn_intD w (d + 1) _ _ Try.underlying3) (eqF_and (p := x.2.2.1 = y.2.2.1) (q := x.2.2.2.1 = y.2.2.2.1 ∧ x.2.2.2.2.1 = y.2.2.2.2.1 ∧ x.2.2.2.2.2.1 = y.2.2.2.2.2.1 ∧ l32 x.2.2.2.2.2.2 = l32 y.2.2.2.2.2.2 ∧ True) (run_part1 (cs := cmdM x) (v := .int .i64 x.2.2.1) Try.underlying3 rfl rfl) (run_part1 (cs := cmdM y) (v := .int .i64 y.2.2.1) Try.underlying3 rfl rfl) (run_equalIn_intD w (d + 1) _ _ Try.underlying3) (eqF_and (p := x.2.2.2.1 = y.2.2.2.1) (q := x.2.2.2.2.1 = y.2.2.2.2.1 ∧ x.2.2.2.2.2.1 = y.2.2.2.2.2.1 ∧ l32 x.2.2.2.2.2.2 = l32 y.2.2.2.2.2.2 ∧ True) (run_part1 (cs := cmdM x) (v := .string x.2.2.2.1) Try.underlying9 rfl rfl) (run_part1 (cs := cmdM y) (v := .string y.2.2.2.1) Try.underlying9 rfl rfl) (run_equalIn_strD w (d + 1) _ _ Try.underlying9) (eqF_and (p := x.2.2.2.2.1 = y.2.2.2.2.1) (q := x.2.2.2.2.2.1 = y.2.2.2.2.2.1 ∧ l32 x.2.2.2.2.2.2 = l32 y.2.2.2.2.2.2 ∧ True) (run_part1 (cs := cmdM x) (v := .string x.2.2.2.2.1) Try.underlying9 rfl rfl) (run_part1 (cs := cmdM y) (v := .string y.2.2.2.2.1) Try.underlying9 rfl rfl) (run_equalIn_strD w (d + 1) _ _ Try.underlying9) (eqF_and (p := x.2.2.2.2.2.1 = y.2.2.2.2.2.1) (q := l32 x.2.2.2.2.2.2 = l32 y.2.2.2.2.2.2 ∧ True) (run_part1 (cs := cmdM x) (v := .int .i64 x.2.2.2.2.2.1) Try.underlying3 rfl rfl) (run_part1 (cs := cmdM y) (v := .int .i64 y.2.2.2.2.2.1) Try.underlying3 rfl rfl) (run_equalIn_intD w (d + 1) _ _ Try.underlying3) (eqF_and (p := l32 x.2.2.2.2.2.2 = l32 y.2.2.2.2.2.2) (q := True) (pDg (show (cmdM x).toArray.extract 6 (6 + 32) = (dg (l32 x.2.2.2.2.2.2)).toArray by kernel_rfl)) (pDg (show (cmdM y).toArray.extract 6 (6 + 32) = (dg (l32 y.2.2.2.2.2.2)).toArray by kernel_rfl)) (run_eqDg Try.underlying29 Try.underlying5 szDq (l32_len x.2.2.2.2.2.2) (l32_len y.2.2.2.2.2.2) w (d + 0)) eqF_nil)))))))).trans ?_
  congr 1
  rw [decide_eq_decide]
  constructor
  · rintro ⟨h0, h1, h2, h3, h4, h5, h6, _⟩
    exact (Prod.ext h0 (Prod.ext h1 (Prod.ext h2 (Prod.ext h3 (Prod.ext h4 (Prod.ext h5 (l32_inj h6)))))))
  · rintro rfl
    exact ⟨rfl, rfl, rfl, rfl, rfl, rfl, rfl, trivial⟩
theorem eqCmdDO (x y : Cmd) (w : World) : (Op.equal 31 (.agg (cmdM x).toArray) (.agg (cmdM y).toArray)).run Try.prog w = .ok (decide (x = y)) w := by
  show (Op.equalIn (9997 + 3) _ _ _).run _ w = _
  exact eqCmdD x y w 9997
theorem eqVrD (x y : Vr) (w : World) (d : Nat) : (Op.equalIn (d + 2) 116 (.agg (vrM x).toArray) (.agg (vrM y).toArray)).run Try.prog w = .ok (decide (x = y)) w := by
  rw [run_eqStruct w (d + 1) _ _ (by kernel_rfl) (by kernel_rfl) (spec := [(true, 3, 0), (true, 114, 1), (true, 9, 2)]) (by kernel_rfl)]
  refine ((eqF_and (p := x.1 = y.1) (q := x.2.1 = y.2.1 ∧ x.2.2 = y.2.2 ∧ True) (run_part1 (cs := vrM x) (v := .int .i64 x.1) Try.underlying3 rfl rfl) (run_part1 (cs := vrM y) (v := .int .i64 y.1) Try.underlying3 rfl rfl) (run_equalIn_intD w (d + 0) _ _ Try.underlying3) (eqF_and (p := x.2.1 = y.2.1) (q := x.2.2 = y.2.2 ∧ True) (run_part1 (cs := vrM x) (v := .int .i64 x.2.1) Try.underlying114 rfl rfl) (run_part1 (cs := vrM y) (v := .int .i64 y.2.1) Try.underlying114 rfl rfl) (run_equalIn_intD w (d + 0) _ _ Try.underlying114) (eqF_and (p := x.2.2 = y.2.2) (q := True) (run_part1 (cs := vrM x) (v := .string x.2.2) Try.underlying9 rfl rfl) (run_part1 (cs := vrM y) (v := .string y.2.2) Try.underlying9 rfl rfl) (run_equalIn_strD w (d + 0) _ _ Try.underlying9) eqF_nil)))).trans ?_
  congr 1
  rw [decide_eq_decide]
  constructor
  · rintro ⟨h0, h1, h2, _⟩
    exact (Prod.ext h0 (Prod.ext h1 h2))
  · rintro rfl
    exact ⟨rfl, rfl, rfl, trivial⟩
theorem eqVrDO (x y : Vr) (w : World) : (Op.equal 116 (.agg (vrM x).toArray) (.agg (vrM y).toArray)).run Try.prog w = .ok (decide (x = y)) w := by
  show (Op.equalIn (9998 + 2) _ _ _).run _ w = _
  exact eqVrD x y w 9998
theorem eqHdD (x y : Hd) (w : World) (d : Nat) : (Op.equalIn (d + 3) 39 (.agg (hdM x).toArray) (.agg (hdM y).toArray)).run Try.prog w = .ok (decide (x = y)) w := by
  rw [run_eqStruct w (d + 2) _ _ (by kernel_rfl) (by kernel_rfl) (spec := [(true, 3, 0), (true, 29, 1), (true, 29, 33)]) (by kernel_rfl)]
  refine ((eqF_and (p := x.1 = y.1) (q := l32 x.2.1 = l32 y.2.1 ∧ l32 x.2.2 = l32 y.2.2 ∧ True) (run_part1 (cs := hdM x) (v := .int .i64 x.1) Try.underlying3 rfl rfl) (run_part1 (cs := hdM y) (v := .int .i64 y.1) Try.underlying3 rfl rfl) (run_equalIn_intD w (d + 1) _ _ Try.underlying3) (eqF_and (p := l32 x.2.1 = l32 y.2.1) (q := l32 x.2.2 = l32 y.2.2 ∧ True) (pDg (show (hdM x).toArray.extract 1 (1 + 32) = (dg (l32 x.2.1)).toArray by kernel_rfl)) (pDg (show (hdM y).toArray.extract 1 (1 + 32) = (dg (l32 y.2.1)).toArray by kernel_rfl)) (run_eqDg Try.underlying29 Try.underlying5 szDq (l32_len x.2.1) (l32_len y.2.1) w (d + 0)) (eqF_and (p := l32 x.2.2 = l32 y.2.2) (q := True) (pDg (show (hdM x).toArray.extract 33 (33 + 32) = (dg (l32 x.2.2)).toArray by kernel_rfl)) (pDg (show (hdM y).toArray.extract 33 (33 + 32) = (dg (l32 y.2.2)).toArray by kernel_rfl)) (run_eqDg Try.underlying29 Try.underlying5 szDq (l32_len x.2.2) (l32_len y.2.2) w (d + 0)) eqF_nil)))).trans ?_
  congr 1
  rw [decide_eq_decide]
  constructor
  · rintro ⟨h0, h1, h2, _⟩
    exact (Prod.ext h0 (Prod.ext (l32_inj h1) (l32_inj h2)))
  · rintro rfl
    exact ⟨rfl, rfl, rfl, trivial⟩
theorem eqHdDO (x y : Hd) (w : World) : (Op.equal 39 (.agg (hdM x).toArray) (.agg (hdM y).toArray)).run Try.prog w = .ok (decide (x = y)) w := by
  show (Op.equalIn (9997 + 3) _ _ _).run _ w = _
  exact eqHdD x y w 9997
theorem eqSgD (x y : Sg) (w : World) (d : Nat) : (Op.equalIn (d + 4) 41 (.agg (sgM x).toArray) (.agg (sgM y).toArray)).run Try.prog w = .ok (decide (x = y)) w := by
  rw [run_eqStruct w (d + 3) _ _ (by kernel_rfl) (by kernel_rfl) (spec := [(true, 39, 0), (true, 29, 65)]) (by kernel_rfl)]
  refine ((eqF_and (p := x.1 = y.1) (q := l32 x.2 = l32 y.2 ∧ True) ((run_partSt' Try.underlying39 (by kernel_rfl : (Try.prog.info? 39).map (·.size) = some 65)).trans (by rw [(show (sgM x).toArray.extract 0 (0 + 65) = (hdM (x.1)).toArray by kernel_rfl)])) ((run_partSt' Try.underlying39 (by kernel_rfl : (Try.prog.info? 39).map (·.size) = some 65)).trans (by rw [(show (sgM y).toArray.extract 0 (0 + 65) = (hdM (y.1)).toArray by kernel_rfl)])) (eqHdD x.1 y.1 w (d + 0)) (eqF_and (p := l32 x.2 = l32 y.2) (q := True) (pDg (show (sgM x).toArray.extract 65 (65 + 32) = (dg (l32 x.2)).toArray by kernel_rfl)) (pDg (show (sgM y).toArray.extract 65 (65 + 32) = (dg (l32 y.2)).toArray by kernel_rfl)) (run_eqDg Try.underlying29 Try.underlying5 szDq (l32_len x.2) (l32_len y.2) w (d + 1)) eqF_nil))).trans ?_
  congr 1
  rw [decide_eq_decide]
  constructor
  · rintro ⟨h0, h1, _⟩
    exact (Prod.ext h0 (l32_inj h1))
  · rintro rfl
    exact ⟨rfl, rfl, trivial⟩
theorem eqSgDO (x y : Sg) (w : World) : (Op.equal 41 (.agg (sgM x).toArray) (.agg (sgM y).toArray)).run Try.prog w = .ok (decide (x = y)) w := by
  show (Op.equalIn (9996 + 4) _ _ _).run _ w = _
  exact eqSgD x y w 9996
theorem eqPlD (x y : Pl) (w : World) (d : Nat) : (Op.equalIn (d + 4) 112 (.agg (plM x).toArray) (.agg (plM y).toArray)).run Try.prog w = .ok (decide (x = y)) w := by
  rw [run_eqStruct w (d + 3) _ _ (by kernel_rfl) (by kernel_rfl) (spec := [(true, 22, 0), (true, 3, 1), (true, 3, 2), (true, 3, 3), (true, 3, 4), (true, 9, 5), (true, 31, 6)]) (by kernel_rfl)]
  refine ((eqF_and (p := x.1 = y.1) (q := x.2.1 = y.2.1 ∧ x.2.2.1 = y.2.2.1 ∧ x.2.2.2.1 = y.2.2.2.1 ∧ x.2.2.2.2.1 = y.2.2.2.2.1 ∧ x.2.2.2.2.2.1 = y.2.2.2.2.2.1 ∧ x.2.2.2.2.2.2 = y.2.2.2.2.2.2 ∧ True) (run_part1 (cs := plM x) (v := .int .i64 x.1) Try.underlying22 rfl rfl) (run_part1 (cs := plM y) (v := .int .i64 y.1) Try.underlying22 rfl rfl) (run_equalIn_intD w (d + 2) _ _ Try.underlying22) (eqF_and (p := x.2.1 = y.2.1) (q := x.2.2.1 = y.2.2.1 ∧ x.2.2.2.1 = y.2.2.2.1 ∧ x.2.2.2.2.1 = y.2.2.2.2.1 ∧ x.2.2.2.2.2.1 = y.2.2.2.2.2.1 ∧ x.2.2.2.2.2.2 = y.2.2.2.2.2.2 ∧ True) (run_part1 (cs := plM x) (v := .int .i64 x.2.1) Try.underlying3 rfl rfl) (run_part1 (cs := plM y) (v := .int .i64 y.2.1) Try.underlying3 rfl rfl) (run_equalIn_intD w (d + 2) _ _ Try.underlying3) (eqF_and (p := x.2.2.1 = y.2.2.1) (q := x.2.2.2.1 = y.2.2.2.1 ∧ x.2.2.2.2.1 = y.2.2.2.2.1 ∧ x.2.2.2.2.2.1 = y.2.2.2.2.2.1 ∧ x.2.2.2.2.2.2 = y.2.2.2.2.2.2 ∧ True) (run_part1 (cs := plM x) (v := .int .i64 x.2.2.1) Try.underlying3 rfl rfl) (run_part1 (cs := plM y) (v := .int .i64 y.2.2.1) Try.underlying3 rfl rfl) (run_equalIn_intD w (d + 2) _ _ Try.underlying3) (eqF_and (p := x.2.2.2.1 = y.2.2.2.1) (q := x.2.2.2.2.1 = y.2.2.2.2.1 ∧ x.2.2.2.2.2.1 = y.2.2.2.2.2.1 ∧ x.2.2.2.2.2.2 = y.2.2.2.2.2.2 ∧ True) (run_part1 (cs := plM x) (v := .int .i64 x.2.2.2.1) Try.underlying3 rfl rfl) (run_part1 (cs := plM y) (v := .int .i64 y.2.2.2.1) Try.underlying3 rfl rfl) (run_equalIn_intD w (d + 2) _ _ Try.underlying3) (eqF_and (p := x.2.2.2.2.1 = y.2.2.2.2.1) (q := x.2.2.2.2.2.1 = y.2.2.2.2.2.1 ∧ x.2.2.2.2.2.2 = y.2.2.2.2.2.2 ∧ True) (run_part1 (cs := plM x) (v := .int .i64 x.2.2.2.2.1) Try.underlying3 rfl rfl) (run_part1 (cs := plM y) (v := .int .i64 y.2.2.2.2.1) Try.underlying3 rfl rfl) (run_equalIn_intD w (d + 2) _ _ Try.underlying3) (eqF_and (p := x.2.2.2.2.2.1 = y.2.2.2.2.2.1) (q := x.2.2.2.2.2.2 = y.2.2.2.2.2.2 ∧ True) (run_part1 (cs := plM x) (v := .string x.2.2.2.2.2.1) Try.underlying9 rfl rfl) (run_part1 (cs := plM y) (v := .string y.2.2.2.2.2.1) Try.underlying9 rfl rfl) (run_equalIn_strD w (d + 2) _ _ Try.underlying9) (eqF_and (p := x.2.2.2.2.2.2 = y.2.2.2.2.2.2) (q := True) ((run_partSt' Try.underlying31 (by kernel_rfl : (Try.prog.info? 31).map (·.size) = some 38)).trans (by rw [(show (plM x).toArray.extract 6 (6 + 38) = (cmdM (x.2.2.2.2.2.2)).toArray by kernel_rfl)])) ((run_partSt' Try.underlying31 (by kernel_rfl : (Try.prog.info? 31).map (·.size) = some 38)).trans (by rw [(show (plM y).toArray.extract 6 (6 + 38) = (cmdM (y.2.2.2.2.2.2)).toArray by kernel_rfl)])) (eqCmdD x.2.2.2.2.2.2 y.2.2.2.2.2.2 w (d + 0)) eqF_nil)))))))).trans ?_
  congr 1
  rw [decide_eq_decide]
  constructor
  · rintro ⟨h0, h1, h2, h3, h4, h5, h6, _⟩
    exact (Prod.ext h0 (Prod.ext h1 (Prod.ext h2 (Prod.ext h3 (Prod.ext h4 (Prod.ext h5 h6))))))
  · rintro rfl
    exact ⟨rfl, rfl, rfl, rfl, rfl, rfl, rfl, trivial⟩
theorem eqPlDO (x y : Pl) (w : World) : (Op.equal 112 (.agg (plM x).toArray) (.agg (plM y).toArray)).run Try.prog w = .ok (decide (x = y)) w := by
  show (Op.equalIn (9996 + 4) _ _ _).run _ w = _
  exact eqPlD x y w 9996
theorem sz3m : (Try.prog.info? 3).map (·.size) = some 1 := by kernel_rfl
theorem sz4m : (Try.prog.info? 4).map (·.size) = some 1 := by kernel_rfl
theorem sz9m : (Try.prog.info? 9).map (·.size) = some 1 := by kernel_rfl
theorem sz22m : (Try.prog.info? 22).map (·.size) = some 1 := by kernel_rfl
theorem sz23m : (Try.prog.info? 23).map (·.size) = some 1 := by kernel_rfl
theorem sz24m : (Try.prog.info? 24).map (·.size) = some 1 := by kernel_rfl
theorem sz26m : (Try.prog.info? 26).map (·.size) = some 2 := by kernel_rfl
theorem sz29m : (Try.prog.info? 29).map (·.size) = some 32 := by kernel_rfl
theorem sz31m : (Try.prog.info? 31).map (·.size) = some 38 := by kernel_rfl
theorem sz32m : (Try.prog.info? 32).map (·.size) = some 1 := by kernel_rfl
theorem sz33m : (Try.prog.info? 33).map (·.size) = some 1 := by kernel_rfl
theorem sz34m : (Try.prog.info? 34).map (·.size) = some 1 := by kernel_rfl
theorem sz35m : (Try.prog.info? 35).map (·.size) = some 1 := by kernel_rfl
theorem sz37m : (Try.prog.info? 37).map (·.size) = some 66 := by kernel_rfl
theorem sz41m : (Try.prog.info? 41).map (·.size) = some 97 := by kernel_rfl
theorem sz43m : (Try.prog.info? 43).map (·.size) = some 169 := by kernel_rfl
theorem sz100m : (Try.prog.info? 100).map (·.size) = some 1 := by kernel_rfl
theorem sz102m : (Try.prog.info? 102).map (·.size) = some 43 := by kernel_rfl
theorem sz116m : (Try.prog.info? 116).map (·.size) = some 3 := by kernel_rfl
theorem tx32m : Txt Try.prog 32 := txt_of Try.func32 rfl (by kernel_rfl)
theorem tx33m : Txt Try.prog 33 := txt_of Try.func33 rfl (by kernel_rfl)
theorem tx34m : Txt Try.prog 34 := txt_of Try.func34 rfl (by kernel_rfl)
theorem tx47m : Txt Try.prog 47 := txt_of Try.func47 rfl (by kernel_rfl)
theorem tx48m : Txt Try.prog 48 := txt_of Try.func48 rfl (by kernel_rfl)
theorem tx49m : Txt Try.prog 49 := txt_of Try.func49 rfl (by kernel_rfl)

theorem ints_w (s1 s2 : Sl) (l1 l2 : List Int) (w : World) (f1 : FA w (factC 1 (.slice s1.1 l1.length s1.2) l1.length (mints l1))) (f2 : FA w (factC 1 (.slice s2.1 l2.length s2.2) l2.length (mints l2))) (hB : l1.length ≤ 1099511627776) :
    Calls Try.prog 48 #[.slice s1.1 l1.length s1.2, .slice s2.1 l2.length s2.2] w fun e w' => e = .returned (.bool (decide (l1 = l2))) ∧ Fr [] w w' := by
  refine calls_of (args := [.slice s1.1 l1.length s1.2, .slice s2.1 l2.length s2.2]) ([]) ([]) ([factC 1 (.slice s1.1 l1.length s1.2) l1.length (mints l1), factC 1 (.slice s2.1 l2.length s2.2) l2.length (mints l2)]) Try.func48 rfl rfl (okFW (.cons f1 (.cons f2 .nil))) ?_
  refine J_seq ?_
  refine J_region ?_
  refine L_v rfl rfl rfl (V_assign rfl rfl) ?_
  refine L_nil ?_
  change J _ _ _ _
  refine J_seq ?_
  refine J_seq ?_
  refine J_region ?_
  refine L_v rfl rfl rfl (V_move rfl rfl) ?_
  refine L_v rfl rfl rfl (V_len rfl rfl Try.underlying24 rfl) ?_
  refine L_v rfl rfl rfl (V_move rfl rfl) ?_
  refine L_v rfl rfl rfl (V_len rfl rfl Try.underlying24 rfl) ?_
  refine L_v rfl rfl rfl (V_neq rfl rfl rfl (by first | exact decide_eq_true (by omega) | exact decide_eq_false (by omega) | rfl)) ?_
  refine L_nil ?_
  change J _ _ _ _
  refine J_cond rfl (fun h1 => ?_) (fun h1 => ?_)
  ·
    first | (have h1 := of_decide_eq_true h1) | (have h1 := of_decide_eq_false h1) | skip
    refine J_seq ?_
    refine J_region ?_
    refine L_v rfl rfl rfl (V_assign rfl rfl) ?_
    refine L_nil ?_
    change J _ _ _ _
    refine J_ret ?_
    change Kret _ _ _ Exit.ret _
    refine ret1 rfl rfl (RV_t rfl) ?_
    exact fun w' h => ⟨by rw [decide_eq_false (eqs_len (by first | omega | exact fun hc => h1 (by rw [hc])))], h.fr⟩
  ·
    first | (have h1 := of_decide_eq_true h1) | (have h1 := of_decide_eq_false h1) | skip
    refine J_skip ?_
    change J _ _ _ _
    refine J_seq ?_
    refine J_seq ?_
    refine J_region ?_
    refine L_v rfl rfl rfl (V_assign rfl rfl) ?_
    refine L_nil ?_
    change J _ _ _ _
    refine J_block ?_
    refine J_loop (X := Nat) (fun i => { env := [(0, .slice s1.1 l1.length s1.2), (1, .slice s2.1 l2.length s2.2), (5, .int .i64 (i : Int))], mem := [], facts := [factC 1 (.slice s1.1 l1.length s1.2) l1.length (mints l1), factC 1 (.slice s2.1 l2.length s2.2) l2.length (mints l2)] }) (fun i => i ≤ l1.length ∧ l1.take i = l2.take i) (fun i => l1.length - i) 0 ⟨Nat.zero_le _, rfl⟩ ⟨⟨rfl, rfl, rfl, trivial⟩, List.Sublist.refl _, fun f hf => hf, rfl⟩ ?_
    rintro i ⟨hi, ht⟩
    refine J_seq ?_
    refine J_seq ?_
    refine J_region ?_
    refine L_v rfl rfl rfl (V_move rfl rfl) ?_
    refine L_v rfl rfl rfl (V_move rfl rfl) ?_
    refine L_v rfl rfl rfl (V_len rfl rfl Try.underlying24 rfl) ?_
    refine L_v rfl rfl rfl (V_lss rfl rfl rfl (by first | exact decide_eq_true (by omega) | exact decide_eq_false (by omega) | rfl)) ?_
    refine L_nil ?_
    change J _ _ _ _
    refine J_cond rfl (fun h2 => ?_) (fun h2 => ?_)
    ·
      first | (have h2 := of_decide_eq_true h2) | (have h2 := of_decide_eq_false h2) | skip
      refine J_skip ?_
      change J _ _ _ _
      refine J_seq ?_
      refine J_block ?_
      refine J_seq ?_
      refine J_regionQ rfl (by kernel_rfl) ?_
      refine LQ_v rfl rfl rfl (V_move rfl rfl) ?_
      refine LQ_v rfl rfl rfl (V_move rfl rfl) ?_
      refine LQ_v rfl rfl rfl (V_indexC rfl rfl rfl Try.underlying24 sz3m (fun w hw => fC hw 0 rfl) (by omega) (by omega)) ?_
      refine LQ_v rfl rfl rfl (V_loadC rfl rfl Try.underlying3 rfl (fun w hw => fC hw 0 rfl) (rows_1 (by omega))) ?_
      refine LQ_v rfl rfl rfl (V_move rfl rfl) ?_
      refine LQ_v rfl rfl rfl (V_move rfl rfl) ?_
      refine LQ_v rfl rfl rfl (V_indexC rfl rfl rfl Try.underlying24 sz3m (fun w hw => fC hw 1 rfl) (by omega) (by omega)) ?_
      refine LQ_v rfl rfl rfl (V_loadC rfl rfl Try.underlying3 rfl (fun w hw => fC hw 1 rfl) (rows_1 (by omega))) ?_
      refine LQ_v rfl rfl rfl (V_neq rfl rfl rfl (by first | exact decide_eq_true (by omega) | exact decide_eq_false (by omega) | rfl)) ?_
      refine LQ_nil ?_
      change J _ _ _ _
      refine J_cond rfl (fun h3 => ?_) (fun h3 => ?_)
      ·
        first | (have h3 := of_decide_eq_true h3) | (have h3 := of_decide_eq_false h3) | skip
        refine J_seq ?_
        refine J_region ?_
        refine L_v rfl rfl rfl (V_assign rfl rfl) ?_
        refine L_nil ?_
        change J _ _ _ _
        refine J_ret ?_
        change Kret _ _ _ Exit.ret _
        refine ret1 rfl rfl (RV_t rfl) ?_
        exact fun w' h => ⟨by rw [decide_eq_false (eqs_ne 0 h3)], h.fr⟩
      ·
        first | (have h3 := of_decide_eq_true h3) | (have h3 := of_decide_eq_false h3) | skip
        refine J_skip ?_
        change J _ _ _ _
        refine J_region ?_
        refine L_v rfl rfl rfl (V_move rfl rfl) ?_
        refine L_v rfl rfl rfl (V_add rfl rfl rfl (by first | exact Go.IntWalk.i64_in _ (by omega) | rfl)) ?_
        refine L_v rfl rfl rfl (V_assign rfl rfl) ?_
        refine L_nil ?_
        exact ⟨i + 1, ⟨by omega, eqs_step 0 (by first | omega | (simp; omega)) (by first | omega | (simp; omega)) ht (by first | omega | exact Classical.byContradiction fun hc => h3 hc | exact hne)⟩, by show l1.length - (i + 1) < l1.length - i; omega, ⟨rfl, rfl, rfl, trivial⟩, List.Sublist.refl _, fun f hf => hf, rfl⟩
    ·
      first | (have h2 := of_decide_eq_true h2) | (have h2 := of_decide_eq_false h2) | skip
      refine J_exit ?_
      change J _ _ _ _
      refine J_seq ?_
      refine J_region ?_
      refine L_v rfl rfl rfl (V_assign rfl rfl) ?_
      refine L_nil ?_
      change J _ _ _ _
      refine J_ret ?_
      change Kret _ _ _ Exit.ret _
      refine ret1 rfl rfl (RV_t rfl) ?_
      exact fun w' h => ⟨by rw [decide_eq_true (eqs_all (by omega) (by omega) ht)], h.fr⟩

theorem sameVersions_w (s1 s2 : Sl) (l1 l2 : List Vr) (w : World) (f1 : FA w (vrF l1 s1)) (f2 : FA w (vrF l2 s2)) (hB : l1.length ≤ 1099511627776) :
    Calls Try.prog 49 #[.slice s1.1 l1.length s1.2, .slice s2.1 l2.length s2.2] w fun e w' => e = .returned (.bool (decide (l1 = l2))) ∧ Fr [] w w' := by
  refine calls_of (args := [.slice s1.1 l1.length s1.2, .slice s2.1 l2.length s2.2]) ([]) ([]) ([vrF l1 s1, vrF l2 s2]) Try.func49 rfl rfl (okFW (.cons f1 (.cons f2 .nil))) ?_
  refine J_seq ?_
  refine J_region ?_
  refine L_v rfl rfl rfl (V_assign rfl rfl) ?_
  refine L_nil ?_
  change J _ _ _ _
  refine J_seq ?_
  refine J_seq ?_
  refine J_region ?_
  refine L_v rfl rfl rfl (V_move rfl rfl) ?_
  refine L_v rfl rfl rfl (V_len rfl rfl Try.underlying34 rfl) ?_
  refine L_v rfl rfl rfl (V_move rfl rfl) ?_
  refine L_v rfl rfl rfl (V_len rfl rfl Try.underlying34 rfl) ?_
  refine L_v rfl rfl rfl (V_neq rfl rfl rfl (by first | exact decide_eq_true (by omega) | exact decide_eq_false (by omega) | rfl)) ?_
  refine L_nil ?_
  change J _ _ _ _
  refine J_cond rfl (fun h1 => ?_) (fun h1 => ?_)
  ·
    first | (have h1 := of_decide_eq_true h1) | (have h1 := of_decide_eq_false h1) | skip
    refine J_seq ?_
    refine J_region ?_
    refine L_v rfl rfl rfl (V_assign rfl rfl) ?_
    refine L_nil ?_
    change J _ _ _ _
    refine J_ret ?_
    change Kret _ _ _ Exit.ret _
    refine ret1 rfl rfl (RV_t rfl) ?_
    exact fun w' h => ⟨by rw [decide_eq_false (eqs_len (by first | omega | exact fun hc => h1 (by rw [hc])))], h.fr⟩
  ·
    first | (have h1 := of_decide_eq_true h1) | (have h1 := of_decide_eq_false h1) | skip
    refine J_skip ?_
    change J _ _ _ _
    refine J_seq ?_
    refine J_seq ?_
    refine J_region ?_
    refine L_v rfl rfl rfl (V_assign rfl rfl) ?_
    refine L_nil ?_
    change J _ _ _ _
    refine J_block ?_
    refine J_loop (X := Nat) (fun i => { env := [(0, .slice s1.1 l1.length s1.2), (1, .slice s2.1 l2.length s2.2), (5, .int .i64 (i : Int))], mem := [], facts := [vrF l1 s1, vrF l2 s2] }) (fun i => i ≤ l1.length ∧ l1.take i = l2.take i) (fun i => l1.length - i) 0 ⟨Nat.zero_le _, rfl⟩ ⟨⟨rfl, rfl, rfl, trivial⟩, List.Sublist.refl _, fun f hf => hf, rfl⟩ ?_
    rintro i ⟨hi, ht⟩
    refine J_seq ?_
    refine J_seq ?_
    refine J_region ?_
    refine L_v rfl rfl rfl (V_move rfl rfl) ?_
    refine L_v rfl rfl rfl (V_move rfl rfl) ?_
    refine L_v rfl rfl rfl (V_len rfl rfl Try.underlying34 rfl) ?_
    refine L_v rfl rfl rfl (V_lss rfl rfl rfl (by first | exact decide_eq_true (by omega) | exact decide_eq_false (by omega) | rfl)) ?_
    refine L_nil ?_
    change J _ _ _ _
    refine J_cond rfl (fun h2 => ?_) (fun h2 => ?_)
    ·
      first | (have h2 := of_decide_eq_true h2) | (have h2 := of_decide_eq_false h2) | skip
      refine J_skip ?_
      change J _ _ _ _
      refine J_seq ?_
      refine J_block ?_
      refine J_seq ?_
      refine J_regionQ rfl (by kernel_rfl) ?_
      refine LQ_v rfl rfl rfl (V_move rfl rfl) ?_
      refine LQ_v rfl rfl rfl (V_move rfl rfl) ?_
      refine LQ_v rfl rfl rfl (V_indexC rfl rfl rfl Try.underlying34 sz116m (fun w hw => fC hw 0 rfl) (by omega) (by omega)) ?_
      refine LQ_v rfl rfl rfl (V_loadCN (vs := vrM (l1.getD i vr0)) rfl rfl Try.underlying116 rfl (szd sz116m (by kernel_rfl)) (fun w hw => fC hw 0 rfl) (by exact Nat.zero_lt_succ _) (rows_v vr0 (sz := 2) (fun _ => rfl) (by omega))) ?_
      refine LQ_v rfl rfl rfl (V_move rfl rfl) ?_
      refine LQ_v rfl rfl rfl (V_move rfl rfl) ?_
      refine LQ_v rfl rfl rfl (V_indexC rfl rfl rfl Try.underlying34 sz116m (fun w hw => fC hw 1 rfl) (by omega) (by omega)) ?_
      refine LQ_v rfl rfl rfl (V_loadCN (vs := vrM (l2.getD i vr0)) rfl rfl Try.underlying116 rfl (szd sz116m (by kernel_rfl)) (fun w hw => fC hw 1 rfl) (by exact Nat.zero_lt_succ _) (rows_v vr0 (sz := 2) (fun _ => rfl) (by omega))) ?_
      refine LQ_v rfl rfl rfl (V_neAgg rfl rfl rfl (by kernel_rfl : Try.prog.eqGuardType Try.prog.depth 116 = false) (fun w => eqVrDO _ _ w) decide_not.symm) ?_
      refine LQ_nil ?_
      change J _ _ _ _
      refine J_cond rfl (fun h3 => ?_) (fun h3 => ?_)
      ·
        first | (have h3 := of_decide_eq_true h3) | (have h3 := of_decide_eq_false h3) | skip
        refine J_seq ?_
        refine J_region ?_
        refine L_v rfl rfl rfl (V_assign rfl rfl) ?_
        refine L_nil ?_
        change J _ _ _ _
        refine J_ret ?_
        change Kret _ _ _ Exit.ret _
        refine ret1 rfl rfl (RV_t rfl) ?_
        exact fun w' h => ⟨by rw [decide_eq_false (eqs_ne vr0 h3)], h.fr⟩
      ·
        first | (have h3 := of_decide_eq_true h3) | (have h3 := of_decide_eq_false h3) | skip
        refine J_skip ?_
        change J _ _ _ _
        refine J_region ?_
        refine L_v rfl rfl rfl (V_move rfl rfl) ?_
        refine L_v rfl rfl rfl (V_add rfl rfl rfl (by first | exact Go.IntWalk.i64_in _ (by omega) | rfl)) ?_
        refine L_v rfl rfl rfl (V_assign rfl rfl) ?_
        refine L_nil ?_
        exact ⟨i + 1, ⟨by omega, eqs_step vr0 (by first | omega | (simp; omega)) (by first | omega | (simp; omega)) ht (by first | omega | exact Classical.byContradiction fun hc => h3 hc | exact hne)⟩, by show l1.length - (i + 1) < l1.length - i; omega, ⟨rfl, rfl, rfl, trivial⟩, List.Sublist.refl _, fun f hf => hf, rfl⟩
    ·
      first | (have h2 := of_decide_eq_true h2) | (have h2 := of_decide_eq_false h2) | skip
      refine J_exit ?_
      change J _ _ _ _
      refine J_seq ?_
      refine J_region ?_
      refine L_v rfl rfl rfl (V_assign rfl rfl) ?_
      refine L_nil ?_
      change J _ _ _ _
      refine J_ret ?_
      change Kret _ _ _ Exit.ret _
      refine ret1 rfl rfl (RV_t rfl) ?_
      exact fun w' h => ⟨by rw [decide_eq_true (eqs_all (by omega) (by omega) ht)], h.fr⟩

theorem sameCouncil_w (x y : Cl) (a1 a2 c1 c2 : Sl) (w : World) (f1 : FA w (clF x a1 a2)) (f2 : FA w (clF y c1 c2)) (hB : x.1.length ≤ 1099511627776 ∧ x.2.length ≤ 1099511627776) :
    Calls Try.prog 33 #[.agg (clM x a1 a2).toArray, .agg (clM y c1 c2).toArray] w fun e w' => e = .returned (.bool (decide (x = y))) ∧ Fr [] w w' := by
  refine calls_of (args := [.agg (clM x a1 a2).toArray, .agg (clM y c1 c2).toArray]) ([]) ([]) ([clF x a1 a2, clF y c1 c2]) Try.func33 rfl rfl (okFW (.cons f1 (.cons f2 .nil))) ?_
  refine J_seq ?_
  refine J_region ?_
  refine L_box rfl rfl rfl rfl rfl (fun b0 => ?_)
  refine L_box rfl rfl rfl rfl rfl (fun b1 => ?_)
  refine L_v rfl rfl rfl (V_assign rfl rfl) ?_
  refine L_nil ?_
  change J _ _ _ _
  refine J_seq ?_
  refine J_region ?_
  refine L_v rfl rfl rfl (V_fieldAddr rfl rfl Try.underlying26 rfl sz24m rfl) ?_
  refine L_v rfl rfl rfl (V_load1 0 rfl rfl rfl Try.underlying24 rfl (by rfl)) ?_
  refine L_v rfl rfl rfl (V_fieldAddr rfl rfl Try.underlying26 rfl sz24m rfl) ?_
  refine L_v rfl rfl rfl (V_load1 1 rfl rfl rfl Try.underlying24 rfl (by rfl)) ?_
  refine L_callV rfl rfl rfl rfl rfl rfl tx48m (fun w1 hw => ints_w a1 c1 x.1 y.1 w1 (hw.fa 0 rfl).l (hw.fa 1 rfl).l hB.1) ?_
  refine L_v rfl rfl rfl (V_move rfl rfl) ?_
  apply L_and 5 10 16
  · rfl
  · rfl
  · rfl
  · rfl
  · rfl
  · rfl
  · rfl
  · kernel_rfl
  · intro hb1 _ _ hk1
    refine L_wv rfl rfl rfl rfl rfl rfl (V_fieldAddr rfl rfl Try.underlying26 rfl sz24m rfl) ?_
    refine L_wv rfl rfl rfl rfl rfl rfl (V_load1 0 rfl rfl rfl Try.underlying24 rfl (by rfl)) ?_
    refine L_wv rfl rfl rfl rfl rfl rfl (V_fieldAddr rfl rfl Try.underlying26 rfl sz24m rfl) ?_
    refine L_wv rfl rfl rfl rfl rfl rfl (V_load1 1 rfl rfl rfl Try.underlying24 rfl (by rfl)) ?_
    refine L_wcallV rfl rfl rfl rfl rfl rfl rfl rfl rfl tx48m (fun w1 hw => ints_w a2 c2 x.2 y.2 w1 (hw.fa 0 rfl).r (hw.fa 1 rfl).r hB.2) ?_
    exact hk1 _ ⟨rfl, rfl, rfl, rfl, ext_cut 5 (by kernel_rfl) (by kernel_rfl)⟩
  refine L_v rfl rfl rfl (V_assign rfl rfl) ?_
  refine L_nil ?_
  change J _ _ _ _
  refine J_ret ?_
  change Kret _ _ _ Exit.ret _
  refine ret1 rfl rfl (RV_t rfl) ?_
  exact fun w' h => ⟨by rw [show decide (x = y) = (decide (x.1 = y.1) && decide (x.2 = y.2)) from by rw [Bool.eq_iff_iff]; simp [Prod.ext_iff]], h.fr⟩

theorem en_dec (x y : En) : ((((decide (x.1 = y.1) && decide (x.2.1 = y.2.1)) && decide (x.2.2.1 = y.2.2.1)) && decide (x.2.2.2.1 = y.2.2.2.1)) && decide (x.2.2.2.2 = y.2.2.2.2)) = decide (x = y) := by
  rw [Bool.eq_iff_iff]
  simp only [Bool.and_eq_true, decide_eq_true_eq]
  constructor
  · rintro ⟨⟨⟨⟨h1, h2⟩, h3⟩, h4⟩, h5⟩
    exact Prod.ext h1 (Prod.ext h2 (Prod.ext h3 (Prod.ext h4 h5)))
  · rintro rfl
    exact ⟨⟨⟨⟨rfl, rfl⟩, rfl⟩, rfl⟩, rfl⟩
theorem sameEntry_w (x y : En) (a1 a2 c1 c2 : Sl) (w : World) (f1 : FA w (clF x.2.2.2.2 a1 a2)) (f2 : FA w (clF y.2.2.2.2 c1 c2)) (hB : x.2.2.2.2.1.length ≤ 1099511627776 ∧ x.2.2.2.2.2.length ≤ 1099511627776) :
    Calls Try.prog 47 #[.agg (enM x a1 a2).toArray, .agg (enM y c1 c2).toArray] w fun e w' => e = .returned (.bool (decide (x = y))) ∧ Fr [] w w' := by
  refine calls_of (args := [.agg (enM x a1 a2).toArray, .agg (enM y c1 c2).toArray]) ([]) ([]) ([clF x.2.2.2.2 a1 a2, clF y.2.2.2.2 c1 c2]) Try.func47 rfl rfl (okFW (.cons f1 (.cons f2 .nil))) ?_
  refine J_seq ?_
  refine J_region ?_
  refine L_box rfl rfl rfl rfl rfl (fun b0 => ?_)
  refine L_box rfl rfl rfl rfl rfl (fun b1 => ?_)
  refine L_v rfl rfl rfl (V_assign rfl rfl) ?_
  refine L_nil ?_
  change J _ _ _ _
  refine J_seq ?_
  refine J_region ?_
  refine L_v rfl rfl rfl (V_fieldAddr rfl rfl Try.underlying102 rfl sz3m rfl) ?_
  refine L_v rfl rfl rfl (V_load1 0 rfl rfl rfl Try.underlying3 rfl (by rfl)) ?_
  refine L_v rfl rfl rfl (V_fieldAddr rfl rfl Try.underlying102 rfl sz3m rfl) ?_
  refine L_v rfl rfl rfl (V_load1 1 rfl rfl rfl Try.underlying3 rfl (by rfl)) ?_
  refine L_v rfl rfl rfl (V_eql rfl rfl rfl rfl) ?_
  refine L_v rfl rfl rfl (V_move rfl rfl) ?_
  apply L_and 5 10 16
  · rfl
  · rfl
  · rfl
  · rfl
  · rfl
  · rfl
  · rfl
  · kernel_rfl
  · intro hb1 _ _ hk1
    refine L_wv rfl rfl rfl rfl rfl rfl (V_fieldAddr rfl rfl Try.underlying102 rfl sz3m rfl) ?_
    refine L_wv rfl rfl rfl rfl rfl rfl (V_load1 0 rfl rfl rfl Try.underlying3 rfl (by rfl)) ?_
    refine L_wv rfl rfl rfl rfl rfl rfl (V_fieldAddr rfl rfl Try.underlying102 rfl sz3m rfl) ?_
    refine L_wv rfl rfl rfl rfl rfl rfl (V_load1 1 rfl rfl rfl Try.underlying3 rfl (by rfl)) ?_
    refine L_wv rfl rfl rfl rfl rfl rfl (V_eql rfl rfl rfl rfl) ?_
    exact hk1 _ ⟨rfl, rfl, rfl, rfl, ext_cut 5 (by kernel_rfl) (by kernel_rfl)⟩
  refine L_v rfl rfl rfl (V_move rfl rfl) ?_
  apply L_and 5 17 23
  · rfl
  · rfl
  · rfl
  · rfl
  · rfl
  · rfl
  · rfl
  · kernel_rfl
  · intro hb2 _ _ hk2
    refine L_wv rfl rfl rfl rfl rfl rfl (V_fieldAddr rfl rfl Try.underlying102 rfl sz100m rfl) ?_
    refine L_wv rfl rfl rfl rfl rfl rfl (V_load1 0 rfl rfl rfl Try.underlying100 rfl (by rfl)) ?_
    refine L_wv rfl rfl rfl rfl rfl rfl (V_fieldAddr rfl rfl Try.underlying102 rfl sz100m rfl) ?_
    refine L_wv rfl rfl rfl rfl rfl rfl (V_load1 1 rfl rfl rfl Try.underlying100 rfl (by rfl)) ?_
    refine L_wv rfl rfl rfl rfl rfl rfl (V_eql rfl rfl rfl rfl) ?_
    exact hk2 _ ⟨rfl, rfl, rfl, rfl, ext_cut 5 (by kernel_rfl) (by kernel_rfl)⟩
  refine L_v rfl rfl rfl (V_move rfl rfl) ?_
  apply L_and 5 24 30
  · rfl
  · rfl
  · rfl
  · rfl
  · rfl
  · rfl
  · rfl
  · kernel_rfl
  · intro hb3 _ _ hk3
    refine L_wv rfl rfl rfl rfl rfl rfl (V_fieldAddr rfl rfl Try.underlying102 rfl sz31m rfl) ?_
    refine L_wv rfl rfl rfl rfl rfl rfl (V_loadT 0 (vs := cmdM x.2.2.2.1) rfl rfl rfl Try.underlying31 rfl sz31m (by kernel_rfl) (by kernel_rfl)) ?_
    refine L_wv rfl rfl rfl rfl rfl rfl (V_fieldAddr rfl rfl Try.underlying102 rfl sz31m rfl) ?_
    refine L_wv rfl rfl rfl rfl rfl rfl (V_loadT 1 (vs := cmdM y.2.2.2.1) rfl rfl rfl Try.underlying31 rfl sz31m (by kernel_rfl) (by kernel_rfl)) ?_
    refine L_wv rfl rfl rfl rfl rfl rfl (V_eqAgg rfl rfl rfl (by kernel_rfl : Try.prog.eqGuardType Try.prog.depth 31 = false) (fun w => eqCmdDO _ _ w) rfl) ?_
    exact hk3 _ ⟨rfl, rfl, rfl, rfl, ext_cut 5 (by kernel_rfl) (by kernel_rfl)⟩
  refine L_v rfl rfl rfl (V_move rfl rfl) ?_
  apply L_and 5 31 37
  · rfl
  · rfl
  · rfl
  · rfl
  · rfl
  · rfl
  · rfl
  · kernel_rfl
  · intro hb4 _ _ hk4
    refine L_wv rfl rfl rfl rfl rfl rfl (V_fieldAddr rfl rfl Try.underlying102 rfl sz26m rfl) ?_
    refine L_wv rfl rfl rfl rfl rfl rfl (V_loadT 0 (vs := clM x.2.2.2.2 a1 a2) rfl rfl rfl Try.underlying26 rfl sz26m (by kernel_rfl) (by kernel_rfl)) ?_
    refine L_wv rfl rfl rfl rfl rfl rfl (V_fieldAddr rfl rfl Try.underlying102 rfl sz26m rfl) ?_
    refine L_wv rfl rfl rfl rfl rfl rfl (V_loadT 1 (vs := clM y.2.2.2.2 c1 c2) rfl rfl rfl Try.underlying26 rfl sz26m (by kernel_rfl) (by kernel_rfl)) ?_
    refine L_wcallV rfl rfl rfl rfl rfl rfl rfl rfl rfl tx33m (fun w1 hw => sameCouncil_w x.2.2.2.2 y.2.2.2.2 a1 a2 c1 c2 w1 (hw.fa 0 rfl) (hw.fa 1 rfl) hB) ?_
    exact hk4 _ ⟨rfl, rfl, rfl, rfl, ext_cut 5 (by kernel_rfl) (by kernel_rfl)⟩
  refine L_v rfl rfl rfl (V_assign rfl rfl) ?_
  refine L_nil ?_
  change J _ _ _ _
  refine J_ret ?_
  change Kret _ _ _ Exit.ret _
  refine ret1 rfl rfl (RV_t rfl) ?_
  exact fun w' h => ⟨by rw [show decide (x = y) = _ from (en_dec x y).symm], h.fr⟩

theorem entries_w (s1 s2 : Sl) (l1 l2 : List EnV) (w : World) (f1 : FA w (esF l1 s1)) (f2 : FA w (esF l2 s2)) (hB : l1.length ≤ 1099511627776) (hC : ∀ p ∈ l1, p.1.2.2.2.2.1.length ≤ 1099511627776 ∧ p.1.2.2.2.2.2.length ≤ 1099511627776) :
    Calls Try.prog 32 #[.slice s1.1 l1.length s1.2, .slice s2.1 l2.length s2.2] w fun e w' => e = .returned (.bool (decide ((l1.map Prod.fst) = (l2.map Prod.fst)))) ∧ Fr [] w w' := by
  refine calls_of (args := [.slice s1.1 l1.length s1.2, .slice s2.1 l2.length s2.2]) ([]) ([]) ([esF l1 s1, esF l2 s2]) Try.func32 rfl rfl (okFW (.cons f1 (.cons f2 .nil))) ?_
  refine J_seq ?_
  refine J_region ?_
  refine L_v rfl rfl rfl (V_assign rfl rfl) ?_
  refine L_nil ?_
  change J _ _ _ _
  refine J_seq ?_
  refine J_seq ?_
  refine J_region ?_
  refine L_v rfl rfl rfl (V_move rfl rfl) ?_
  refine L_v rfl rfl rfl (V_len rfl rfl Try.underlying23 rfl) ?_
  refine L_v rfl rfl rfl (V_move rfl rfl) ?_
  refine L_v rfl rfl rfl (V_len rfl rfl Try.underlying23 rfl) ?_
  refine L_v rfl rfl rfl (V_neq rfl rfl rfl (by first | exact decide_eq_true (by omega) | exact decide_eq_false (by omega) | rfl)) ?_
  refine L_nil ?_
  change J _ _ _ _
  refine J_cond rfl (fun h1 => ?_) (fun h1 => ?_)
  ·
    first | (have h1 := of_decide_eq_true h1) | (have h1 := of_decide_eq_false h1) | skip
    refine J_seq ?_
    refine J_region ?_
    refine L_v rfl rfl rfl (V_assign rfl rfl) ?_
    refine L_nil ?_
    change J _ _ _ _
    refine J_ret ?_
    change Kret _ _ _ Exit.ret _
    refine ret1 rfl rfl (RV_t rfl) ?_
    exact fun w' h => ⟨by rw [decide_eq_false (eqs_len (by simp only [List.length_map]; first | omega | exact fun hc => h1 (by rw [hc])))], h.fr⟩
  ·
    first | (have h1 := of_decide_eq_true h1) | (have h1 := of_decide_eq_false h1) | skip
    refine J_skip ?_
    change J _ _ _ _
    refine J_seq ?_
    refine J_seq ?_
    refine J_region ?_
    refine L_v rfl rfl rfl (V_assign rfl rfl) ?_
    refine L_nil ?_
    change J _ _ _ _
    refine J_block ?_
    refine J_loop (X := Nat) (fun i => { env := [(0, .slice s1.1 l1.length s1.2), (1, .slice s2.1 l2.length s2.2), (5, .int .i64 (i : Int))], mem := [], facts := [esF l1 s1, esF l2 s2] }) (fun i => i ≤ l1.length ∧ (l1.map Prod.fst).take i = (l2.map Prod.fst).take i) (fun i => l1.length - i) 0 ⟨Nat.zero_le _, rfl⟩ ⟨⟨rfl, rfl, rfl, trivial⟩, List.Sublist.refl _, fun f hf => hf, rfl⟩ ?_
    rintro i ⟨hi, ht⟩
    refine J_seq ?_
    refine J_seq ?_
    refine J_region ?_
    refine L_v rfl rfl rfl (V_move rfl rfl) ?_
    refine L_v rfl rfl rfl (V_move rfl rfl) ?_
    refine L_v rfl rfl rfl (V_len rfl rfl Try.underlying23 rfl) ?_
    refine L_v rfl rfl rfl (V_lss rfl rfl rfl (by first | exact decide_eq_true (by omega) | exact decide_eq_false (by omega) | rfl)) ?_
    refine L_nil ?_
    change J _ _ _ _
    refine J_cond rfl (fun h2 => ?_) (fun h2 => ?_)
    ·
      first | (have h2 := of_decide_eq_true h2) | (have h2 := of_decide_eq_false h2) | skip
      have hi2 : i < l2.length := by omega
      have e1 := getD_map' Prod.fst env0 en0 (show i < l1.length by omega)
      have e2 := getD_map' Prod.fst env0 en0 hi2
      refine J_skip ?_
      change J _ _ _ _
      refine J_seq ?_
      refine J_block ?_
      refine J_seq ?_
      refine J_regionQ rfl (by kernel_rfl) ?_
      refine LQ_v rfl rfl rfl (V_move rfl rfl) ?_
      refine LQ_v rfl rfl rfl (V_move rfl rfl) ?_
      refine LQ_v rfl rfl rfl (V_indexC rfl rfl rfl Try.underlying23 sz102m (fun w hw => (hw.fa 0 rfl).l.1) (by omega) (by omega)) ?_
      refine LQ_v rfl rfl rfl (V_loadCN (vs := enM ((l1.getD i env0).1) ((l1.getD i env0).2.1) ((l1.getD i env0).2.2)) rfl rfl Try.underlying102 rfl (szd sz102m (by kernel_rfl)) (fun w hw => (hw.fa 0 rfl).l.1) (by exact Nat.zero_lt_succ _) (rows_v (f := enW) env0 (sz := 42) (fun _ => rfl) (by omega))) ?_
      refine LQ_v rfl rfl rfl (V_move rfl rfl) ?_
      refine LQ_v rfl rfl rfl (V_move rfl rfl) ?_
      refine LQ_v rfl rfl rfl (V_indexC rfl rfl rfl Try.underlying23 sz102m (fun w hw => (hw.fa 1 rfl).l.1) (by omega) (by omega)) ?_
      refine LQ_v rfl rfl rfl (V_loadCN (vs := enM ((l2.getD i env0).1) ((l2.getD i env0).2.1) ((l2.getD i env0).2.2)) rfl rfl Try.underlying102 rfl (szd sz102m (by kernel_rfl)) (fun w hw => (hw.fa 1 rfl).l.1) (by exact Nat.zero_lt_succ _) (rows_v (f := enW) env0 (sz := 42) (fun _ => rfl) (by omega))) ?_
      refine LQ_callV rfl rfl rfl rfl rfl rfl tx47m (fun w1 hw => sameEntry_w (l1.getD i env0).1 (l2.getD i env0).1 _ _ _ _ w1 ((hw.fa 0 rfl).r.of (List.mem_map.2 ⟨_, getD_mem (by omega), rfl⟩)) ((hw.fa 1 rfl).r.of (List.mem_map.2 ⟨_, getD_mem (by omega), rfl⟩)) (hC _ (getD_mem (by omega)))) ?_
      refine LQ_v rfl rfl rfl (V_not rfl rfl rfl) ?_
      refine LQ_nil ?_
      change J _ _ _ _
      refine J_cond rfl (fun h3 => ?_) (fun h3 => ?_)
      ·
        first | (have h3 := of_decide_eq_true h3) | (have h3 := of_decide_eq_false h3) | skip
        refine J_seq ?_
        refine J_region ?_
        refine L_v rfl rfl rfl (V_assign rfl rfl) ?_
        refine L_nil ?_
        change J _ _ _ _
        refine J_ret ?_
        change Kret _ _ _ Exit.ret _
        refine ret1 rfl rfl (RV_t rfl) ?_
        exact fun w' h => ⟨by rw [decide_eq_false (eqs_ne en0 (by rw [e1, e2]; simpa using h3))], h.fr⟩
      ·
        first | (have h3 := of_decide_eq_true h3) | (have h3 := of_decide_eq_false h3) | skip
        refine J_skip ?_
        change J _ _ _ _
        refine J_region ?_
        refine L_v rfl rfl rfl (V_move rfl rfl) ?_
        refine L_v rfl rfl rfl (V_add rfl rfl rfl (by first | exact Go.IntWalk.i64_in _ (by omega) | rfl)) ?_
        refine L_v rfl rfl rfl (V_assign rfl rfl) ?_
        refine L_nil ?_
        exact ⟨i + 1, ⟨by omega, eqs_step en0 (by first | omega | (simp; omega)) (by first | omega | (simp; omega)) ht (by rw [e1, e2]; simpa using h3)⟩, by show l1.length - (i + 1) < l1.length - i; omega, ⟨rfl, rfl, rfl, trivial⟩, List.Sublist.refl _, fun f hf => hf, rfl⟩
    ·
      first | (have h2 := of_decide_eq_true h2) | (have h2 := of_decide_eq_false h2) | skip
      refine J_exit ?_
      change J _ _ _ _
      refine J_seq ?_
      refine J_region ?_
      refine L_v rfl rfl rfl (V_assign rfl rfl) ?_
      refine L_nil ?_
      change J _ _ _ _
      refine J_ret ?_
      change Kret _ _ _ Exit.ret _
      refine ret1 rfl rfl (RV_t rfl) ?_
      exact fun w' h => ⟨by rw [decide_eq_true (eqs_all (by simp only [List.length_map]; omega) (by simp only [List.length_map]; omega) ht)], h.fr⟩

theorem rp_iff (x y : Rp) (hs : x.pf.sib = y.pf.sib) : x = y ↔ (((((((((x.pf.other = y.pf.other ∧ x.pf.path = y.pf.path) ∧ x.pf.val = y.pf.val) ∧ x.code = y.code) ∧ x.seq = y.seq) ∧ x.lead = y.lead) ∧ x.index = y.index) ∧ x.epoch = y.epoch) ∧ x.head = y.head) ∧ x.vers = y.vers) := by
  obtain ⟨a1, a2, a3, a4, a5, a6, ⟨p1, p2, p3, p4⟩, a8⟩ := x
  obtain ⟨b1, b2, b3, b4, b5, b6, ⟨q1, q2, q3, q4⟩, b8⟩ := y
  simp only [Rp.mk.injEq, Pf.mk.injEq] at hs ⊢
  subst hs
  constructor
  · rintro ⟨rfl, rfl, rfl, rfl, rfl, rfl, ⟨-, rfl, rfl, rfl⟩, rfl⟩
    exact ⟨⟨⟨⟨⟨⟨⟨⟨⟨rfl, rfl⟩, rfl⟩, rfl⟩, rfl⟩, rfl⟩, rfl⟩, rfl⟩, rfl⟩, rfl⟩
  · rintro ⟨⟨⟨⟨⟨⟨⟨⟨⟨rfl, rfl⟩, rfl⟩, rfl⟩, rfl⟩, rfl⟩, rfl⟩, rfl⟩, rfl⟩, rfl⟩
    exact ⟨rfl, rfl, rfl, rfl, rfl, rfl, ⟨rfl, rfl, rfl, rfl⟩, rfl⟩
set_option maxHeartbeats 2000000 in
theorem sameReply_w (x y : Rp) (v1 s1 v2 s2 : Sl) (w : World) (f1 : FA w (rpF x v1 s1)) (f2 : FA w (rpF y v2 s2)) (hB : x.vers.length ≤ 1099511627776 ∧ x.pf.sib.length ≤ 1099511627776) :
    Calls Try.prog 34 #[.agg (rpM x v1 s1).toArray, .agg (rpM y v2 s2).toArray] w fun e w' => e = .returned (.bool (decide (x = y))) ∧ Fr [] w w' := by
  refine calls_of (args := [.agg (rpM x v1 s1).toArray, .agg (rpM y v2 s2).toArray]) ([]) ([]) ([rpF x v1 s1, rpF y v2 s2]) Try.func34 rfl rfl (okFW (.cons f1 (.cons f2 .nil))) ?_
  refine J_seq ?_
  refine J_region ?_
  refine L_box rfl rfl rfl rfl rfl (fun b0 => ?_)
  refine L_box rfl rfl rfl rfl rfl (fun b1 => ?_)
  refine L_v rfl rfl rfl (V_assign rfl rfl) ?_
  refine L_nil ?_
  change J _ _ _ _
  refine J_seq ?_
  refine J_seq ?_
  refine J_region ?_
  refine L_v rfl rfl rfl (V_fieldAddr rfl rfl Try.underlying43 rfl sz37m rfl) ?_
  refine L_v rfl rfl rfl (V_fieldAddr rfl rfl Try.underlying37 rfl sz35m rfl) ?_
  refine L_v rfl rfl rfl (V_load1 0 rfl rfl rfl Try.underlying35 rfl (by rfl)) ?_
  refine L_v rfl rfl rfl (V_len rfl rfl Try.underlying35 rfl) ?_
  refine L_v rfl rfl rfl (V_fieldAddr rfl rfl Try.underlying43 rfl sz37m rfl) ?_
  refine L_v rfl rfl rfl (V_fieldAddr rfl rfl Try.underlying37 rfl sz35m rfl) ?_
  refine L_v rfl rfl rfl (V_load1 1 rfl rfl rfl Try.underlying35 rfl (by rfl)) ?_
  refine L_v rfl rfl rfl (V_len rfl rfl Try.underlying35 rfl) ?_
  refine L_v rfl rfl rfl (V_neq rfl rfl rfl (by first | exact decide_eq_true (by omega) | exact decide_eq_false (by omega) | rfl)) ?_
  refine L_nil ?_
  change J _ _ _ _
  refine J_cond rfl (fun h1 => ?_) (fun h1 => ?_)
  ·
    first | (have h1 := of_decide_eq_true h1) | (have h1 := of_decide_eq_false h1) | skip
    refine J_seq ?_
    refine J_region ?_
    refine L_v rfl rfl rfl (V_assign rfl rfl) ?_
    refine L_nil ?_
    change J _ _ _ _
    refine J_ret ?_
    change Kret _ _ _ Exit.ret _
    refine ret1 rfl rfl (RV_t rfl) ?_
    exact fun w' h => ⟨by rw [decide_eq_false (fun hc => h1 (by rw [hc]))], h.fr⟩
  ·
    first | (have h1 := of_decide_eq_true h1) | (have h1 := of_decide_eq_false h1) | skip
    refine J_skip ?_
    change J _ _ _ _
    refine J_seq ?_
    refine J_seq ?_
    refine J_region ?_
    refine L_v rfl rfl rfl (V_assign rfl rfl) ?_
    refine L_nil ?_
    change J _ _ _ _
    refine J_block ?_
    refine J_loop (X := Nat) (fun i => { env := [(2, .pointer (some ⟨b0, 0, none⟩)), (3, .pointer (some ⟨b1, 0, none⟩)), (5, .int .i64 (i : Int))], mem := [(b0, row 43 (rpM x v1 s1)), (b1, row 43 (rpM y v2 s2))], facts := [rpF x v1 s1, rpF y v2 s2] }) (fun i => i ≤ x.pf.sib.length ∧ x.pf.sib.take i = y.pf.sib.take i) (fun i => x.pf.sib.length - i) 0 ⟨Nat.zero_le _, rfl⟩ ⟨⟨rfl, rfl, rfl, trivial⟩, List.Sublist.refl _, fun f hf => hf, rfl⟩ ?_
    rintro i ⟨hi, ht⟩
    refine J_seq ?_
    refine J_seq ?_
    refine J_region ?_
    refine L_v rfl rfl rfl (V_move rfl rfl) ?_
    refine L_v rfl rfl rfl (V_fieldAddr rfl rfl Try.underlying43 rfl sz37m rfl) ?_
    refine L_v rfl rfl rfl (V_fieldAddr rfl rfl Try.underlying37 rfl sz35m rfl) ?_
    refine L_v rfl rfl rfl (V_load1 0 rfl rfl rfl Try.underlying35 rfl (by rfl)) ?_
    refine L_v rfl rfl rfl (V_len rfl rfl Try.underlying35 rfl) ?_
    refine L_v rfl rfl rfl (V_lss rfl rfl rfl (by first | exact decide_eq_true (by omega) | exact decide_eq_false (by omega) | rfl)) ?_
    refine L_nil ?_
    change J _ _ _ _
    refine J_cond rfl (fun h2 => ?_) (fun h2 => ?_)
    ·
      first | (have h2 := of_decide_eq_true h2) | (have h2 := of_decide_eq_false h2) | skip
      refine J_skip ?_
      change J _ _ _ _
      refine J_seq ?_
      refine J_block ?_
      refine J_seq ?_
      refine J_regionQ rfl (by kernel_rfl) ?_
      refine LQ_v rfl rfl rfl (V_fieldAddr rfl rfl Try.underlying43 rfl sz37m rfl) ?_
      refine LQ_v rfl rfl rfl (V_fieldAddr rfl rfl Try.underlying37 rfl sz35m rfl) ?_
      refine LQ_v rfl rfl rfl (V_load1 0 rfl rfl rfl Try.underlying35 rfl (by rfl)) ?_
      refine LQ_v rfl rfl rfl (V_move rfl rfl) ?_
      refine LQ_v rfl rfl rfl (V_indexC rfl rfl rfl Try.underlying35 sz29m (fun w hw => (hw.fa 0 rfl).r.1) (by omega) (by omega)) ?_
      refine LQ_v rfl rfl rfl (V_loadCN (vs := dgM (x.pf.sib.getD i dz)) rfl rfl Try.underlying29 rfl (szd sz29m (by kernel_rfl)) (fun w hw => (hw.fa 0 rfl).r.1) (by exact Nat.zero_lt_succ _) (rows_v (f := dgM) dz (sz := 31) (fun _ => rfl) (by omega))) ?_
      refine LQ_v rfl rfl rfl (V_fieldAddr rfl rfl Try.underlying43 rfl sz37m rfl) ?_
      refine LQ_v rfl rfl rfl (V_fieldAddr rfl rfl Try.underlying37 rfl sz35m rfl) ?_
      refine LQ_v rfl rfl rfl (V_load1 1 rfl rfl rfl Try.underlying35 rfl (by rfl)) ?_
      refine LQ_v rfl rfl rfl (V_move rfl rfl) ?_
      refine LQ_v rfl rfl rfl (V_indexC rfl rfl rfl Try.underlying35 sz29m (fun w hw => (hw.fa 1 rfl).r.1) (by omega) (by omega)) ?_
      refine LQ_v rfl rfl rfl (V_loadCN (vs := dgM (y.pf.sib.getD i dz)) rfl rfl Try.underlying29 rfl (szd sz29m (by kernel_rfl)) (fun w hw => (hw.fa 1 rfl).r.1) (by exact Nat.zero_lt_succ _) (rows_v (f := dgM) dz (sz := 31) (fun _ => rfl) (by omega))) ?_
      refine LQ_v rfl rfl rfl (V_neAgg rfl rfl rfl (by kernel_rfl : Try.prog.eqGuardType Try.prog.depth 29 = false) (fun w => eqDgDO _ _ w) decide_not.symm) ?_
      refine LQ_nil ?_
      change J _ _ _ _
      refine J_cond rfl (fun h3 => ?_) (fun h3 => ?_)
      ·
        first | (have h3 := of_decide_eq_true h3) | (have h3 := of_decide_eq_false h3) | skip
        refine J_seq ?_
        refine J_region ?_
        refine L_v rfl rfl rfl (V_assign rfl rfl) ?_
        refine L_nil ?_
        change J _ _ _ _
        refine J_ret ?_
        change Kret _ _ _ Exit.ret _
        refine ret1 rfl rfl (RV_t rfl) ?_
        exact fun w' h => ⟨by rw [decide_eq_false (fun hc => eqs_ne dz h3 (by rw [hc]))], h.fr⟩
      ·
        first | (have h3 := of_decide_eq_true h3) | (have h3 := of_decide_eq_false h3) | skip
        refine J_skip ?_
        change J _ _ _ _
        refine J_region ?_
        refine L_v rfl rfl rfl (V_move rfl rfl) ?_
        refine L_v rfl rfl rfl (V_add rfl rfl rfl (by first | exact Go.IntWalk.i64_in _ (by omega) | rfl)) ?_
        refine L_v rfl rfl rfl (V_assign rfl rfl) ?_
        refine L_nil ?_
        exact ⟨i + 1, ⟨by omega, eqs_step dz (by omega) (by omega) ht (Classical.byContradiction fun hc => h3 hc)⟩, by show x.pf.sib.length - (i + 1) < x.pf.sib.length - i; omega, ⟨rfl, rfl, rfl, trivial⟩, List.Sublist.refl _, fun f hf => hf, rfl⟩
    ·
      first | (have h2 := of_decide_eq_true h2) | (have h2 := of_decide_eq_false h2) | skip
      have hs := eqs_all (by omega) (by omega) ht
      refine J_exit ?_
      change J _ _ _ _
      refine J_seq ?_
      refine J_region ?_
      refine L_v rfl rfl rfl (V_fieldAddr rfl rfl Try.underlying43 rfl sz37m rfl) ?_
      refine L_v rfl rfl rfl (V_fieldAddr rfl rfl Try.underlying37 rfl sz4m rfl) ?_
      refine L_v rfl rfl rfl (V_load1 0 rfl rfl rfl Try.underlying4 rfl (by rfl)) ?_
      refine L_v rfl rfl rfl (V_fieldAddr rfl rfl Try.underlying43 rfl sz37m rfl) ?_
      refine L_v rfl rfl rfl (V_fieldAddr rfl rfl Try.underlying37 rfl sz4m rfl) ?_
      refine L_v rfl rfl rfl (V_load1 1 rfl rfl rfl Try.underlying4 rfl (by rfl)) ?_
      refine L_v rfl rfl rfl (V_eqB rfl rfl rfl Try.underlying4 rfl) ?_
      refine L_v rfl rfl rfl (V_move rfl rfl) ?_
      apply L_and 7 44 52
      · rfl
      · rfl
      · rfl
      · rfl
      · rfl
      · rfl
      · rfl
      · kernel_rfl
      · intro hb3 _ _ hk3
        refine L_wv rfl rfl rfl rfl rfl rfl (V_fieldAddr rfl rfl Try.underlying43 rfl sz37m rfl) ?_
        refine L_wv rfl rfl rfl rfl rfl rfl (V_fieldAddr rfl rfl Try.underlying37 rfl sz29m rfl) ?_
        refine L_wv rfl rfl rfl rfl rfl rfl (V_loadT 0 (vs := dgM x.pf.path) rfl rfl rfl Try.underlying29 rfl sz29m (by kernel_rfl) (by kernel_rfl)) ?_
        refine L_wv rfl rfl rfl rfl rfl rfl (V_fieldAddr rfl rfl Try.underlying43 rfl sz37m rfl) ?_
        refine L_wv rfl rfl rfl rfl rfl rfl (V_fieldAddr rfl rfl Try.underlying37 rfl sz29m rfl) ?_
        refine L_wv rfl rfl rfl rfl rfl rfl (V_loadT 1 (vs := dgM y.pf.path) rfl rfl rfl Try.underlying29 rfl sz29m (by kernel_rfl) (by kernel_rfl)) ?_
        refine L_wv rfl rfl rfl rfl rfl rfl (V_eqAgg rfl rfl rfl (by kernel_rfl : Try.prog.eqGuardType Try.prog.depth 29 = false) (fun w => eqDgDO _ _ w) rfl) ?_
        exact hk3 _ ⟨rfl, rfl, rfl, rfl, ext_cut 7 (by kernel_rfl) (by kernel_rfl)⟩
      refine L_v rfl rfl rfl (V_move rfl rfl) ?_
      apply L_and 7 53 61
      · rfl
      · rfl
      · rfl
      · rfl
      · rfl
      · rfl
      · rfl
      · kernel_rfl
      · intro hb4 _ _ hk4
        refine L_wv rfl rfl rfl rfl rfl rfl (V_fieldAddr rfl rfl Try.underlying43 rfl sz37m rfl) ?_
        refine L_wv rfl rfl rfl rfl rfl rfl (V_fieldAddr rfl rfl Try.underlying37 rfl sz29m rfl) ?_
        refine L_wv rfl rfl rfl rfl rfl rfl (V_loadT 0 (vs := dgM x.pf.val) rfl rfl rfl Try.underlying29 rfl sz29m (by kernel_rfl) (by kernel_rfl)) ?_
        refine L_wv rfl rfl rfl rfl rfl rfl (V_fieldAddr rfl rfl Try.underlying43 rfl sz37m rfl) ?_
        refine L_wv rfl rfl rfl rfl rfl rfl (V_fieldAddr rfl rfl Try.underlying37 rfl sz29m rfl) ?_
        refine L_wv rfl rfl rfl rfl rfl rfl (V_loadT 1 (vs := dgM y.pf.val) rfl rfl rfl Try.underlying29 rfl sz29m (by kernel_rfl) (by kernel_rfl)) ?_
        refine L_wv rfl rfl rfl rfl rfl rfl (V_eqAgg rfl rfl rfl (by kernel_rfl : Try.prog.eqGuardType Try.prog.depth 29 = false) (fun w => eqDgDO _ _ w) rfl) ?_
        exact hk4 _ ⟨rfl, rfl, rfl, rfl, ext_cut 7 (by kernel_rfl) (by kernel_rfl)⟩
      refine L_v rfl rfl rfl (V_assign rfl rfl) ?_
      refine L_nil ?_
      change J _ _ _ _
      refine J_seq ?_
      refine J_region ?_
      refine L_v rfl rfl rfl (V_move rfl rfl) ?_
      refine L_v rfl rfl rfl (V_move rfl rfl) ?_
      apply L_and 5 63 69
      · rfl
      · rfl
      · rfl
      · rfl
      · rfl
      · rfl
      · rfl
      · kernel_rfl
      · intro hb5 _ _ hk5
        refine L_wv rfl rfl rfl rfl rfl rfl (V_fieldAddr rfl rfl Try.underlying43 rfl sz33m rfl) ?_
        refine L_wv rfl rfl rfl rfl rfl rfl (V_load1 0 rfl rfl rfl Try.underlying33 rfl (by rfl)) ?_
        refine L_wv rfl rfl rfl rfl rfl rfl (V_fieldAddr rfl rfl Try.underlying43 rfl sz33m rfl) ?_
        refine L_wv rfl rfl rfl rfl rfl rfl (V_load1 1 rfl rfl rfl Try.underlying33 rfl (by rfl)) ?_
        refine L_wv rfl rfl rfl rfl rfl rfl (V_eql rfl rfl rfl (by first | exact decide_eq_true (by omega) | exact decide_eq_false (by omega) | rfl)) ?_
        exact hk5 _ ⟨rfl, rfl, rfl, rfl, ext_cut 5 (by kernel_rfl) (by kernel_rfl)⟩
      refine L_v rfl rfl rfl (V_move rfl rfl) ?_
      apply L_and 5 70 76
      · rfl
      · rfl
      · rfl
      · rfl
      · rfl
      · rfl
      · rfl
      · kernel_rfl
      · intro hb6 _ _ hk6
        refine L_wv rfl rfl rfl rfl rfl rfl (V_fieldAddr rfl rfl Try.underlying43 rfl sz3m rfl) ?_
        refine L_wv rfl rfl rfl rfl rfl rfl (V_load1 0 rfl rfl rfl Try.underlying3 rfl (by rfl)) ?_
        refine L_wv rfl rfl rfl rfl rfl rfl (V_fieldAddr rfl rfl Try.underlying43 rfl sz3m rfl) ?_
        refine L_wv rfl rfl rfl rfl rfl rfl (V_load1 1 rfl rfl rfl Try.underlying3 rfl (by rfl)) ?_
        refine L_wv rfl rfl rfl rfl rfl rfl (V_eql rfl rfl rfl (by first | exact decide_eq_true (by omega) | exact decide_eq_false (by omega) | rfl)) ?_
        exact hk6 _ ⟨rfl, rfl, rfl, rfl, ext_cut 5 (by kernel_rfl) (by kernel_rfl)⟩
      refine L_v rfl rfl rfl (V_move rfl rfl) ?_
      apply L_and 5 77 83
      · rfl
      · rfl
      · rfl
      · rfl
      · rfl
      · rfl
      · rfl
      · kernel_rfl
      · intro hb7 _ _ hk7
        refine L_wv rfl rfl rfl rfl rfl rfl (V_fieldAddr rfl rfl Try.underlying43 rfl sz3m rfl) ?_
        refine L_wv rfl rfl rfl rfl rfl rfl (V_load1 0 rfl rfl rfl Try.underlying3 rfl (by rfl)) ?_
        refine L_wv rfl rfl rfl rfl rfl rfl (V_fieldAddr rfl rfl Try.underlying43 rfl sz3m rfl) ?_
        refine L_wv rfl rfl rfl rfl rfl rfl (V_load1 1 rfl rfl rfl Try.underlying3 rfl (by rfl)) ?_
        refine L_wv rfl rfl rfl rfl rfl rfl (V_eql rfl rfl rfl (by first | exact decide_eq_true (by omega) | exact decide_eq_false (by omega) | rfl)) ?_
        exact hk7 _ ⟨rfl, rfl, rfl, rfl, ext_cut 5 (by kernel_rfl) (by kernel_rfl)⟩
      refine L_v rfl rfl rfl (V_move rfl rfl) ?_
      apply L_and 5 84 90
      · rfl
      · rfl
      · rfl
      · rfl
      · rfl
      · rfl
      · rfl
      · kernel_rfl
      · intro hb8 _ _ hk8
        refine L_wv rfl rfl rfl rfl rfl rfl (V_fieldAddr rfl rfl Try.underlying43 rfl sz3m rfl) ?_
        refine L_wv rfl rfl rfl rfl rfl rfl (V_load1 0 rfl rfl rfl Try.underlying3 rfl (by rfl)) ?_
        refine L_wv rfl rfl rfl rfl rfl rfl (V_fieldAddr rfl rfl Try.underlying43 rfl sz3m rfl) ?_
        refine L_wv rfl rfl rfl rfl rfl rfl (V_load1 1 rfl rfl rfl Try.underlying3 rfl (by rfl)) ?_
        refine L_wv rfl rfl rfl rfl rfl rfl (V_eql rfl rfl rfl (by first | exact decide_eq_true (by omega) | exact decide_eq_false (by omega) | rfl)) ?_
        exact hk8 _ ⟨rfl, rfl, rfl, rfl, ext_cut 5 (by kernel_rfl) (by kernel_rfl)⟩
      refine L_v rfl rfl rfl (V_move rfl rfl) ?_
      apply L_and 5 91 97
      · rfl
      · rfl
      · rfl
      · rfl
      · rfl
      · rfl
      · rfl
      · kernel_rfl
      · intro hb9 _ _ hk9
        refine L_wv rfl rfl rfl rfl rfl rfl (V_fieldAddr rfl rfl Try.underlying43 rfl sz3m rfl) ?_
        refine L_wv rfl rfl rfl rfl rfl rfl (V_load1 0 rfl rfl rfl Try.underlying3 rfl (by rfl)) ?_
        refine L_wv rfl rfl rfl rfl rfl rfl (V_fieldAddr rfl rfl Try.underlying43 rfl sz3m rfl) ?_
        refine L_wv rfl rfl rfl rfl rfl rfl (V_load1 1 rfl rfl rfl Try.underlying3 rfl (by rfl)) ?_
        refine L_wv rfl rfl rfl rfl rfl rfl (V_eql rfl rfl rfl (by first | exact decide_eq_true (by omega) | exact decide_eq_false (by omega) | rfl)) ?_
        exact hk9 _ ⟨rfl, rfl, rfl, rfl, ext_cut 5 (by kernel_rfl) (by kernel_rfl)⟩
      refine L_v rfl rfl rfl (V_move rfl rfl) ?_
      apply L_and 5 98 104
      · rfl
      · rfl
      · rfl
      · rfl
      · rfl
      · rfl
      · rfl
      · kernel_rfl
      · intro hb10 _ _ hk10
        refine L_wv rfl rfl rfl rfl rfl rfl (V_fieldAddr rfl rfl Try.underlying43 rfl sz41m rfl) ?_
        refine L_wv rfl rfl rfl rfl rfl rfl (V_loadT 0 (vs := sgM x.head) rfl rfl rfl Try.underlying41 rfl sz41m (by kernel_rfl) (by kernel_rfl)) ?_
        refine L_wv rfl rfl rfl rfl rfl rfl (V_fieldAddr rfl rfl Try.underlying43 rfl sz41m rfl) ?_
        refine L_wv rfl rfl rfl rfl rfl rfl (V_loadT 1 (vs := sgM y.head) rfl rfl rfl Try.underlying41 rfl sz41m (by kernel_rfl) (by kernel_rfl)) ?_
        refine L_wv rfl rfl rfl rfl rfl rfl (V_eqAgg rfl rfl rfl (by kernel_rfl : Try.prog.eqGuardType Try.prog.depth 41 = false) (fun w => eqSgDO _ _ w) rfl) ?_
        exact hk10 _ ⟨rfl, rfl, rfl, rfl, ext_cut 5 (by kernel_rfl) (by kernel_rfl)⟩
      refine L_v rfl rfl rfl (V_move rfl rfl) ?_
      apply L_and 5 105 111
      · rfl
      · rfl
      · rfl
      · rfl
      · rfl
      · rfl
      · rfl
      · kernel_rfl
      · intro hb11 _ _ hk11
        refine L_wv rfl rfl rfl rfl rfl rfl (V_fieldAddr rfl rfl Try.underlying43 rfl sz34m rfl) ?_
        refine L_wv rfl rfl rfl rfl rfl rfl (V_load1 0 rfl rfl rfl Try.underlying34 rfl (by rfl)) ?_
        refine L_wv rfl rfl rfl rfl rfl rfl (V_fieldAddr rfl rfl Try.underlying43 rfl sz34m rfl) ?_
        refine L_wv rfl rfl rfl rfl rfl rfl (V_load1 1 rfl rfl rfl Try.underlying34 rfl (by rfl)) ?_
        refine L_wcallV rfl rfl rfl rfl rfl rfl rfl rfl rfl tx49m (fun w1 hw => sameVersions_w v1 v2 x.vers y.vers w1 (hw.fa 0 rfl).l (hw.fa 1 rfl).l hB.1) ?_
        exact hk11 _ ⟨rfl, rfl, rfl, rfl, ext_cut 5 (by kernel_rfl) (by kernel_rfl)⟩
      refine L_v rfl rfl rfl (V_assign rfl rfl) ?_
      refine L_nil ?_
      change J _ _ _ _
      refine J_ret ?_
      change Kret _ _ _ Exit.ret _
      refine ret1 rfl rfl (RV_t rfl) ?_
      exact fun w' h => ⟨congrArg (fun b => Ending.returned (Value.bool b)) (Bool.eq_iff_iff.2 (by simp only [Bool.and_eq_true, decide_eq_true_eq, beq_iff_eq]; exact (rp_iff x y hs).symm)), h.fr⟩

abbrev SzM (x : Ms) (es : List EnV) : Prop := (∀ p ∈ es, p.1.2.2.2.2.1.length ≤ 1099511627776 ∧ p.1.2.2.2.2.2.length ≤ 1099511627776) ∧ es.length ≤ 1099511627776 ∧ (x.council.1.length ≤ 1099511627776 ∧ x.council.2.length ≤ 1099511627776) ∧ x.reply.vers.length ≤ 1099511627776 ∧ x.reply.pf.sib.length ≤ 1099511627776
theorem ms_iff (x y : Ms) : x = y ↔ ((((((((((((x.kind = y.kind ∧ x.frm = y.frm) ∧ x.to = y.to) ∧ x.term = y.term) ∧ x.index = y.index) ∧ x.logTerm = y.logTerm) ∧ x.commit = y.commit) ∧ x.round = y.round) ∧ x.ok = y.ok) ∧ ((((((x.total = y.total ∧ x.offset = y.offset) ∧ x.data = y.data) ∧ x.cmd = y.cmd) ∧ x.ask = y.ask) ∧ x.seq = y.seq) ∧ x.user = y.user)) ∧ x.entries = y.entries) ∧ x.council = y.council) ∧ x.reply = y.reply) := by
  obtain ⟨a0, a1, a2, a3, a4, a5, a6, a7, a8, a9, a10, a11, a12, a13, a14, a15, a16, a17, a18⟩ := x
  obtain ⟨b0, b1, b2, b3, b4, b5, b6, b7, b8, b9, b10, b11, b12, b13, b14, b15, b16, b17, b18⟩ := y
  simp only [Ms.mk.injEq]
  constructor
  · rintro ⟨rfl, rfl, rfl, rfl, rfl, rfl, rfl, rfl, rfl, rfl, rfl, rfl, rfl, rfl, rfl, rfl, rfl, rfl, rfl⟩
    exact ⟨⟨⟨⟨⟨⟨⟨⟨⟨⟨⟨⟨rfl, rfl⟩, rfl⟩, rfl⟩, rfl⟩, rfl⟩, rfl⟩, rfl⟩, rfl⟩, ⟨⟨⟨⟨⟨⟨rfl, rfl⟩, rfl⟩, rfl⟩, rfl⟩, rfl⟩, rfl⟩⟩, rfl⟩, rfl⟩, rfl⟩
  · rintro ⟨⟨⟨⟨⟨⟨⟨⟨⟨⟨⟨⟨rfl, rfl⟩, rfl⟩, rfl⟩, rfl⟩, rfl⟩, rfl⟩, rfl⟩, rfl⟩, ⟨⟨⟨⟨⟨⟨rfl, rfl⟩, rfl⟩, rfl⟩, rfl⟩, rfl⟩, rfl⟩⟩, rfl⟩, rfl⟩, rfl⟩
    exact ⟨rfl, rfl, rfl, rfl, rfl, rfl, rfl, rfl, rfl, rfl, rfl, rfl, rfl, rfl, rfl, rfl, rfl, rfl, rfl⟩
set_option maxHeartbeats 4000000 in
theorem sameMessage0_w (x y : Ms) (m n : M5) (es gs : List EnV) (w : World) (hx : x.entries = es.map Prod.fst) (hy : y.entries = gs.map Prod.fst) (f1 : FA w (msF x m es)) (f2 : FA w (msF y n gs)) (hB : SzM x es) :
    Calls Try.prog 12 #[.agg (msM x m).toArray, .agg (msM y n).toArray] w fun e w' => e = .returned (.bool (decide (x = y))) ∧ Fr [] w w' := by
  have lx : x.entries.length = es.length := by rw [hx, List.length_map]
  have ly : y.entries.length = gs.length := by rw [hy, List.length_map]
  refine calls_of (args := [.agg (msM x m).toArray, .agg (msM y n).toArray]) ([]) ([]) ([msF x m es, msF y n gs]) Try.func12 rfl rfl (okFW (.cons f1 (.cons f2 .nil))) ?_
  refine J_seq ?_
  refine J_region ?_
  refine L_box rfl rfl rfl rfl rfl (fun b0 => ?_)
  refine L_box rfl rfl rfl rfl rfl (fun b1 => ?_)
  refine L_v rfl rfl rfl (V_assign rfl rfl) ?_
  refine L_nil ?_
  change J _ _ _ _
  refine J_seq ?_
  refine J_region ?_
  refine L_v rfl rfl rfl (V_fieldAddr rfl rfl Try.underlying45 rfl sz22m rfl) ?_
  refine L_v rfl rfl rfl (V_load1 0 rfl rfl rfl Try.underlying22 rfl (by rfl)) ?_
  refine L_v rfl rfl rfl (V_fieldAddr rfl rfl Try.underlying45 rfl sz22m rfl) ?_
  refine L_v rfl rfl rfl (V_load1 1 rfl rfl rfl Try.underlying22 rfl (by rfl)) ?_
  refine L_v rfl rfl rfl (V_eql rfl rfl rfl rfl) ?_
  refine L_v rfl rfl rfl (V_move rfl rfl) ?_
  apply L_and 5 12 18
  · rfl
  · rfl
  · rfl
  · rfl
  · rfl
  · rfl
  · rfl
  · kernel_rfl
  · intro hb1 _ _ hk1
    refine L_wv rfl rfl rfl rfl rfl rfl (V_fieldAddr rfl rfl Try.underlying45 rfl sz3m rfl) ?_
    refine L_wv rfl rfl rfl rfl rfl rfl (V_load1 0 rfl rfl rfl Try.underlying3 rfl (by rfl)) ?_
    refine L_wv rfl rfl rfl rfl rfl rfl (V_fieldAddr rfl rfl Try.underlying45 rfl sz3m rfl) ?_
    refine L_wv rfl rfl rfl rfl rfl rfl (V_load1 1 rfl rfl rfl Try.underlying3 rfl (by rfl)) ?_
    refine L_wv rfl rfl rfl rfl rfl rfl (V_eql rfl rfl rfl rfl) ?_
    exact hk1 _ ⟨rfl, rfl, rfl, rfl, ext_cut 5 (by kernel_rfl) (by kernel_rfl)⟩
  refine L_v rfl rfl rfl (V_move rfl rfl) ?_
  apply L_and 5 19 25
  · rfl
  · rfl
  · rfl
  · rfl
  · rfl
  · rfl
  · rfl
  · kernel_rfl
  · intro hb2 _ _ hk2
    refine L_wv rfl rfl rfl rfl rfl rfl (V_fieldAddr rfl rfl Try.underlying45 rfl sz3m rfl) ?_
    refine L_wv rfl rfl rfl rfl rfl rfl (V_load1 0 rfl rfl rfl Try.underlying3 rfl (by rfl)) ?_
    refine L_wv rfl rfl rfl rfl rfl rfl (V_fieldAddr rfl rfl Try.underlying45 rfl sz3m rfl) ?_
    refine L_wv rfl rfl rfl rfl rfl rfl (V_load1 1 rfl rfl rfl Try.underlying3 rfl (by rfl)) ?_
    refine L_wv rfl rfl rfl rfl rfl rfl (V_eql rfl rfl rfl rfl) ?_
    exact hk2 _ ⟨rfl, rfl, rfl, rfl, ext_cut 5 (by kernel_rfl) (by kernel_rfl)⟩
  refine L_v rfl rfl rfl (V_move rfl rfl) ?_
  apply L_and 5 26 32
  · rfl
  · rfl
  · rfl
  · rfl
  · rfl
  · rfl
  · rfl
  · kernel_rfl
  · intro hb3 _ _ hk3
    refine L_wv rfl rfl rfl rfl rfl rfl (V_fieldAddr rfl rfl Try.underlying45 rfl sz3m rfl) ?_
    refine L_wv rfl rfl rfl rfl rfl rfl (V_load1 0 rfl rfl rfl Try.underlying3 rfl (by rfl)) ?_
    refine L_wv rfl rfl rfl rfl rfl rfl (V_fieldAddr rfl rfl Try.underlying45 rfl sz3m rfl) ?_
    refine L_wv rfl rfl rfl rfl rfl rfl (V_load1 1 rfl rfl rfl Try.underlying3 rfl (by rfl)) ?_
    refine L_wv rfl rfl rfl rfl rfl rfl (V_eql rfl rfl rfl rfl) ?_
    exact hk3 _ ⟨rfl, rfl, rfl, rfl, ext_cut 5 (by kernel_rfl) (by kernel_rfl)⟩
  refine L_v rfl rfl rfl (V_move rfl rfl) ?_
  apply L_and 5 33 39
  · rfl
  · rfl
  · rfl
  · rfl
  · rfl
  · rfl
  · rfl
  · kernel_rfl
  · intro hb4 _ _ hk4
    refine L_wv rfl rfl rfl rfl rfl rfl (V_fieldAddr rfl rfl Try.underlying45 rfl sz3m rfl) ?_
    refine L_wv rfl rfl rfl rfl rfl rfl (V_load1 0 rfl rfl rfl Try.underlying3 rfl (by rfl)) ?_
    refine L_wv rfl rfl rfl rfl rfl rfl (V_fieldAddr rfl rfl Try.underlying45 rfl sz3m rfl) ?_
    refine L_wv rfl rfl rfl rfl rfl rfl (V_load1 1 rfl rfl rfl Try.underlying3 rfl (by rfl)) ?_
    refine L_wv rfl rfl rfl rfl rfl rfl (V_eql rfl rfl rfl rfl) ?_
    exact hk4 _ ⟨rfl, rfl, rfl, rfl, ext_cut 5 (by kernel_rfl) (by kernel_rfl)⟩
  refine L_v rfl rfl rfl (V_move rfl rfl) ?_
  apply L_and 5 40 46
  · rfl
  · rfl
  · rfl
  · rfl
  · rfl
  · rfl
  · rfl
  · kernel_rfl
  · intro hb5 _ _ hk5
    refine L_wv rfl rfl rfl rfl rfl rfl (V_fieldAddr rfl rfl Try.underlying45 rfl sz3m rfl) ?_
    refine L_wv rfl rfl rfl rfl rfl rfl (V_load1 0 rfl rfl rfl Try.underlying3 rfl (by rfl)) ?_
    refine L_wv rfl rfl rfl rfl rfl rfl (V_fieldAddr rfl rfl Try.underlying45 rfl sz3m rfl) ?_
    refine L_wv rfl rfl rfl rfl rfl rfl (V_load1 1 rfl rfl rfl Try.underlying3 rfl (by rfl)) ?_
    refine L_wv rfl rfl rfl rfl rfl rfl (V_eql rfl rfl rfl rfl) ?_
    exact hk5 _ ⟨rfl, rfl, rfl, rfl, ext_cut 5 (by kernel_rfl) (by kernel_rfl)⟩
  refine L_v rfl rfl rfl (V_move rfl rfl) ?_
  apply L_and 5 47 53
  · rfl
  · rfl
  · rfl
  · rfl
  · rfl
  · rfl
  · rfl
  · kernel_rfl
  · intro hb6 _ _ hk6
    refine L_wv rfl rfl rfl rfl rfl rfl (V_fieldAddr rfl rfl Try.underlying45 rfl sz3m rfl) ?_
    refine L_wv rfl rfl rfl rfl rfl rfl (V_load1 0 rfl rfl rfl Try.underlying3 rfl (by rfl)) ?_
    refine L_wv rfl rfl rfl rfl rfl rfl (V_fieldAddr rfl rfl Try.underlying45 rfl sz3m rfl) ?_
    refine L_wv rfl rfl rfl rfl rfl rfl (V_load1 1 rfl rfl rfl Try.underlying3 rfl (by rfl)) ?_
    refine L_wv rfl rfl rfl rfl rfl rfl (V_eql rfl rfl rfl rfl) ?_
    exact hk6 _ ⟨rfl, rfl, rfl, rfl, ext_cut 5 (by kernel_rfl) (by kernel_rfl)⟩
  refine L_v rfl rfl rfl (V_move rfl rfl) ?_
  apply L_and 5 54 60
  · rfl
  · rfl
  · rfl
  · rfl
  · rfl
  · rfl
  · rfl
  · kernel_rfl
  · intro hb7 _ _ hk7
    refine L_wv rfl rfl rfl rfl rfl rfl (V_fieldAddr rfl rfl Try.underlying45 rfl sz3m rfl) ?_
    refine L_wv rfl rfl rfl rfl rfl rfl (V_load1 0 rfl rfl rfl Try.underlying3 rfl (by rfl)) ?_
    refine L_wv rfl rfl rfl rfl rfl rfl (V_fieldAddr rfl rfl Try.underlying45 rfl sz3m rfl) ?_
    refine L_wv rfl rfl rfl rfl rfl rfl (V_load1 1 rfl rfl rfl Try.underlying3 rfl (by rfl)) ?_
    refine L_wv rfl rfl rfl rfl rfl rfl (V_eql rfl rfl rfl rfl) ?_
    exact hk7 _ ⟨rfl, rfl, rfl, rfl, ext_cut 5 (by kernel_rfl) (by kernel_rfl)⟩
  refine L_v rfl rfl rfl (V_move rfl rfl) ?_
  apply L_and 5 61 67
  · rfl
  · rfl
  · rfl
  · rfl
  · rfl
  · rfl
  · rfl
  · kernel_rfl
  · intro hb8 _ _ hk8
    refine L_wv rfl rfl rfl rfl rfl rfl (V_fieldAddr rfl rfl Try.underlying45 rfl sz4m rfl) ?_
    refine L_wv rfl rfl rfl rfl rfl rfl (V_load1 0 rfl rfl rfl Try.underlying4 rfl (by rfl)) ?_
    refine L_wv rfl rfl rfl rfl rfl rfl (V_fieldAddr rfl rfl Try.underlying45 rfl sz4m rfl) ?_
    refine L_wv rfl rfl rfl rfl rfl rfl (V_load1 1 rfl rfl rfl Try.underlying4 rfl (by rfl)) ?_
    refine L_wv rfl rfl rfl rfl rfl rfl (V_eqB rfl rfl rfl Try.underlying4 rfl) ?_
    exact hk8 _ ⟨rfl, rfl, rfl, rfl, ext_cut 5 (by kernel_rfl) (by kernel_rfl)⟩
  refine L_v rfl rfl rfl (V_assign rfl rfl) ?_
  refine L_nil ?_
  change J _ _ _ _
  refine J_seq ?_
  refine J_region ?_
  refine L_v rfl rfl rfl (V_fieldAddr rfl rfl Try.underlying45 rfl sz3m rfl) ?_
  refine L_v rfl rfl rfl (V_load1 0 rfl rfl rfl Try.underlying3 rfl (by rfl)) ?_
  refine L_v rfl rfl rfl (V_fieldAddr rfl rfl Try.underlying45 rfl sz3m rfl) ?_
  refine L_v rfl rfl rfl (V_load1 1 rfl rfl rfl Try.underlying3 rfl (by rfl)) ?_
  refine L_v rfl rfl rfl (V_eql rfl rfl rfl rfl) ?_
  refine L_v rfl rfl rfl (V_move rfl rfl) ?_
  apply L_and 5 73 79
  · rfl
  · rfl
  · rfl
  · rfl
  · rfl
  · rfl
  · rfl
  · kernel_rfl
  · intro hb9 _ _ hk9
    refine L_wv rfl rfl rfl rfl rfl rfl (V_fieldAddr rfl rfl Try.underlying45 rfl sz3m rfl) ?_
    refine L_wv rfl rfl rfl rfl rfl rfl (V_load1 0 rfl rfl rfl Try.underlying3 rfl (by rfl)) ?_
    refine L_wv rfl rfl rfl rfl rfl rfl (V_fieldAddr rfl rfl Try.underlying45 rfl sz3m rfl) ?_
    refine L_wv rfl rfl rfl rfl rfl rfl (V_load1 1 rfl rfl rfl Try.underlying3 rfl (by rfl)) ?_
    refine L_wv rfl rfl rfl rfl rfl rfl (V_eql rfl rfl rfl rfl) ?_
    exact hk9 _ ⟨rfl, rfl, rfl, rfl, ext_cut 5 (by kernel_rfl) (by kernel_rfl)⟩
  refine L_v rfl rfl rfl (V_move rfl rfl) ?_
  apply L_and 5 80 86
  · rfl
  · rfl
  · rfl
  · rfl
  · rfl
  · rfl
  · rfl
  · kernel_rfl
  · intro hb10 _ _ hk10
    refine L_wv rfl rfl rfl rfl rfl rfl (V_fieldAddr rfl rfl Try.underlying45 rfl sz9m rfl) ?_
    refine L_wv rfl rfl rfl rfl rfl rfl (V_load1 0 rfl rfl rfl Try.underlying9 rfl (by rfl)) ?_
    refine L_wv rfl rfl rfl rfl rfl rfl (V_fieldAddr rfl rfl Try.underlying45 rfl sz9m rfl) ?_
    refine L_wv rfl rfl rfl rfl rfl rfl (V_load1 1 rfl rfl rfl Try.underlying9 rfl (by rfl)) ?_
    refine L_wv rfl rfl rfl rfl rfl rfl (V_eqS rfl rfl rfl rfl) ?_
    exact hk10 _ ⟨rfl, rfl, rfl, rfl, ext_cut 5 (by kernel_rfl) (by kernel_rfl)⟩
  refine L_v rfl rfl rfl (V_move rfl rfl) ?_
  apply L_and 5 87 93
  · rfl
  · rfl
  · rfl
  · rfl
  · rfl
  · rfl
  · rfl
  · kernel_rfl
  · intro hb11 _ _ hk11
    refine L_wv rfl rfl rfl rfl rfl rfl (V_fieldAddr rfl rfl Try.underlying45 rfl sz31m rfl) ?_
    refine L_wv rfl rfl rfl rfl rfl rfl (V_loadT 0 (vs := cmdM x.cmd) rfl rfl rfl Try.underlying31 rfl sz31m (by kernel_rfl) (by kernel_rfl)) ?_
    refine L_wv rfl rfl rfl rfl rfl rfl (V_fieldAddr rfl rfl Try.underlying45 rfl sz31m rfl) ?_
    refine L_wv rfl rfl rfl rfl rfl rfl (V_loadT 1 (vs := cmdM y.cmd) rfl rfl rfl Try.underlying31 rfl sz31m (by kernel_rfl) (by kernel_rfl)) ?_
    refine L_wv rfl rfl rfl rfl rfl rfl (V_eqAgg rfl rfl rfl (by kernel_rfl : Try.prog.eqGuardType Try.prog.depth 31 = false) (fun w => eqCmdDO _ _ w) rfl) ?_
    exact hk11 _ ⟨rfl, rfl, rfl, rfl, ext_cut 5 (by kernel_rfl) (by kernel_rfl)⟩
  refine L_v rfl rfl rfl (V_move rfl rfl) ?_
  apply L_and 5 94 100
  · rfl
  · rfl
  · rfl
  · rfl
  · rfl
  · rfl
  · rfl
  · kernel_rfl
  · intro hb12 _ _ hk12
    refine L_wv rfl rfl rfl rfl rfl rfl (V_fieldAddr rfl rfl Try.underlying45 rfl sz32m rfl) ?_
    refine L_wv rfl rfl rfl rfl rfl rfl (V_load1 0 rfl rfl rfl Try.underlying32 rfl (by rfl)) ?_
    refine L_wv rfl rfl rfl rfl rfl rfl (V_fieldAddr rfl rfl Try.underlying45 rfl sz32m rfl) ?_
    refine L_wv rfl rfl rfl rfl rfl rfl (V_load1 1 rfl rfl rfl Try.underlying32 rfl (by rfl)) ?_
    refine L_wv rfl rfl rfl rfl rfl rfl (V_eql rfl rfl rfl rfl) ?_
    exact hk12 _ ⟨rfl, rfl, rfl, rfl, ext_cut 5 (by kernel_rfl) (by kernel_rfl)⟩
  refine L_v rfl rfl rfl (V_move rfl rfl) ?_
  apply L_and 5 101 107
  · rfl
  · rfl
  · rfl
  · rfl
  · rfl
  · rfl
  · rfl
  · kernel_rfl
  · intro hb13 _ _ hk13
    refine L_wv rfl rfl rfl rfl rfl rfl (V_fieldAddr rfl rfl Try.underlying45 rfl sz3m rfl) ?_
    refine L_wv rfl rfl rfl rfl rfl rfl (V_load1 0 rfl rfl rfl Try.underlying3 rfl (by rfl)) ?_
    refine L_wv rfl rfl rfl rfl rfl rfl (V_fieldAddr rfl rfl Try.underlying45 rfl sz3m rfl) ?_
    refine L_wv rfl rfl rfl rfl rfl rfl (V_load1 1 rfl rfl rfl Try.underlying3 rfl (by rfl)) ?_
    refine L_wv rfl rfl rfl rfl rfl rfl (V_eql rfl rfl rfl rfl) ?_
    exact hk13 _ ⟨rfl, rfl, rfl, rfl, ext_cut 5 (by kernel_rfl) (by kernel_rfl)⟩
  refine L_v rfl rfl rfl (V_move rfl rfl) ?_
  apply L_and 5 108 114
  · rfl
  · rfl
  · rfl
  · rfl
  · rfl
  · rfl
  · rfl
  · kernel_rfl
  · intro hb14 _ _ hk14
    refine L_wv rfl rfl rfl rfl rfl rfl (V_fieldAddr rfl rfl Try.underlying45 rfl sz9m rfl) ?_
    refine L_wv rfl rfl rfl rfl rfl rfl (V_load1 0 rfl rfl rfl Try.underlying9 rfl (by rfl)) ?_
    refine L_wv rfl rfl rfl rfl rfl rfl (V_fieldAddr rfl rfl Try.underlying45 rfl sz9m rfl) ?_
    refine L_wv rfl rfl rfl rfl rfl rfl (V_load1 1 rfl rfl rfl Try.underlying9 rfl (by rfl)) ?_
    refine L_wv rfl rfl rfl rfl rfl rfl (V_eqS rfl rfl rfl rfl) ?_
    exact hk14 _ ⟨rfl, rfl, rfl, rfl, ext_cut 5 (by kernel_rfl) (by kernel_rfl)⟩
  refine L_v rfl rfl rfl (V_assign rfl rfl) ?_
  refine L_nil ?_
  change J _ _ _ _
  refine J_seq ?_
  refine J_region ?_
  refine L_v rfl rfl rfl (V_move rfl rfl) ?_
  refine L_v rfl rfl rfl (V_move rfl rfl) ?_
  apply L_and 1 116 118
  · rfl
  · rfl
  · rfl
  · rfl
  · rfl
  · rfl
  · rfl
  · kernel_rfl
  · intro hb15 _ _ hk15
    refine L_wv rfl rfl rfl rfl rfl rfl (V_move rfl rfl) ?_
    exact hk15 _ ⟨rfl, rfl, rfl, rfl, ext_cut 1 (by kernel_rfl) (by kernel_rfl)⟩
  refine L_v rfl rfl rfl (V_move rfl rfl) ?_
  apply L_and 5 119 125
  · rfl
  · rfl
  · rfl
  · rfl
  · rfl
  · rfl
  · rfl
  · kernel_rfl
  · intro hb16 _ _ hk16
    refine L_wv rfl rfl rfl rfl rfl rfl (V_fieldAddr rfl rfl Try.underlying45 rfl sz23m rfl) ?_
    refine L_wv rfl rfl rfl rfl rfl rfl (V_load1 0 rfl rfl rfl Try.underlying23 rfl (by rfl)) ?_
    refine L_wv rfl rfl rfl rfl rfl rfl (V_fieldAddr rfl rfl Try.underlying45 rfl sz23m rfl) ?_
    refine L_wv rfl rfl rfl rfl rfl rfl (V_load1 1 rfl rfl rfl Try.underlying23 rfl (by rfl)) ?_
    refine L_wcallV rfl rfl rfl rfl rfl rfl rfl rfl rfl tx32m (fun w1 hw => (by rw [hx, hy, List.length_map, List.length_map]; exact entries_w m.e n.e es gs w1 (hw.fa 0 rfl).l (hw.fa 1 rfl).l hB.2.1 hB.1 : Calls Try.prog 32 #[.slice m.e.1 x.entries.length m.e.2, .slice n.e.1 y.entries.length n.e.2] w1 fun e w' => e = .returned (.bool (decide (x.entries = y.entries))) ∧ Fr [] w1 w')) ?_
    exact hk16 _ ⟨rfl, rfl, rfl, rfl, ext_cut 5 (by kernel_rfl) (by kernel_rfl)⟩
  refine L_v rfl rfl rfl (V_move rfl rfl) ?_
  apply L_and 5 126 132
  · rfl
  · rfl
  · rfl
  · rfl
  · rfl
  · rfl
  · rfl
  · kernel_rfl
  · intro hb17 _ _ hk17
    refine L_wv rfl rfl rfl rfl rfl rfl (V_fieldAddr rfl rfl Try.underlying45 rfl sz26m rfl) ?_
    refine L_wv rfl rfl rfl rfl rfl rfl (V_loadT 0 (vs := clM x.council m.a m.b) rfl rfl rfl Try.underlying26 rfl sz26m (by kernel_rfl) (by kernel_rfl)) ?_
    refine L_wv rfl rfl rfl rfl rfl rfl (V_fieldAddr rfl rfl Try.underlying45 rfl sz26m rfl) ?_
    refine L_wv rfl rfl rfl rfl rfl rfl (V_loadT 1 (vs := clM y.council n.a n.b) rfl rfl rfl Try.underlying26 rfl sz26m (by kernel_rfl) (by kernel_rfl)) ?_
    refine L_wcallV rfl rfl rfl rfl rfl rfl rfl rfl rfl tx33m (fun w1 hw => sameCouncil_w x.council y.council m.a m.b n.a n.b w1 (hw.fa 0 rfl).r.l (hw.fa 1 rfl).r.l hB.2.2.1) ?_
    exact hk17 _ ⟨rfl, rfl, rfl, rfl, ext_cut 5 (by kernel_rfl) (by kernel_rfl)⟩
  refine L_v rfl rfl rfl (V_move rfl rfl) ?_
  apply L_and 5 133 139
  · rfl
  · rfl
  · rfl
  · rfl
  · rfl
  · rfl
  · rfl
  · kernel_rfl
  · intro hb18 _ _ hk18
    refine L_wv rfl rfl rfl rfl rfl rfl (V_fieldAddr rfl rfl Try.underlying45 rfl sz43m rfl) ?_
    refine L_wv rfl rfl rfl rfl rfl rfl (V_loadT 0 (vs := rpM x.reply m.v m.s) rfl rfl rfl Try.underlying43 rfl sz43m (by kernel_rfl) (by kernel_rfl)) ?_
    refine L_wv rfl rfl rfl rfl rfl rfl (V_fieldAddr rfl rfl Try.underlying45 rfl sz43m rfl) ?_
    refine L_wv rfl rfl rfl rfl rfl rfl (V_loadT 1 (vs := rpM y.reply n.v n.s) rfl rfl rfl Try.underlying43 rfl sz43m (by kernel_rfl) (by kernel_rfl)) ?_
    refine L_wcallV rfl rfl rfl rfl rfl rfl rfl rfl rfl tx34m (fun w1 hw => sameReply_w x.reply y.reply m.v m.s n.v n.s w1 (hw.fa 0 rfl).r.r (hw.fa 1 rfl).r.r hB.2.2.2) ?_
    exact hk18 _ ⟨rfl, rfl, rfl, rfl, ext_cut 5 (by kernel_rfl) (by kernel_rfl)⟩
  refine L_v rfl rfl rfl (V_assign rfl rfl) ?_
  refine L_nil ?_
  change J _ _ _ _
  refine J_ret ?_
  change Kret _ _ _ Exit.ret _
  refine ret1 rfl rfl (RV_t rfl) ?_
  exact fun w' h => ⟨congrArg (fun b => Ending.returned (Value.bool b)) (Bool.eq_iff_iff.2 (by simp only [Bool.and_eq_true, decide_eq_true_eq, beq_iff_eq]; exact (ms_iff x y).symm)), h.fr⟩

end Go.Proofs.Ytfdmjjhgdbpfeaa
