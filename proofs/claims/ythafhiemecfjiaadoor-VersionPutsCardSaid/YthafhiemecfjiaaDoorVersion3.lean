/- What the functions of layer 7 that make lists come to. -/
import Derived.Test.YthafhiemecfjiaaDoorVersion2
set_option linter.unusedVariables false
set_option linter.unusedSimpArgs false
set_option maxRecDepth 100000
namespace Go.Proofs.YthafhiemecfjiaaDoor
open Go.Sx
theorem may_b {v : Ver} {b : Bool} (h : mayV v = b) (w : World) : Calls Tryd.prog 25 #[.agg (vc v).toArray] w fun e w' => e = .returned (.bool b) ∧ Fr [] w w' := h ▸ may_w v w
theorem rmay_b {v : Ver} {b : Bool} (h : mayV v = b) (w : World) : Calls Tryd.prog 28 #[.agg (vc v).toArray] w fun e w' => e = .returned (.bool b) ∧ Fr [] w w' := h ▸ rmay_w v w
theorem open_b {v : Ver} {b : Bool} (h : openV v = b) (w : World) : Calls Tryd.prog 26 #[.agg (vc v).toArray] w fun e w' => e = .returned (.bool b) ∧ Fr [] w w' := h ▸ open_w v w
theorem check_t (a : Option Addr) (n c : Nat) (l : List Ver) (w : World) (hl : l.length = n) (hu : SlC 3 w (.slice a n c) n (vcs l)) (hn : n ≤ 1048576) (hcn : n ≤ c) (h : isH l = true) : Calls Tryd.prog 11 #[.slice a n c] w fun e w' => e = .returned (.int .i64 0) ∧ Fr [] w w' := by
  have := check_w a n c l w hl hu hn hcn
  rwa [if_pos h] at this
theorem ish_b (a : Option Addr) (n c : Nat) (l : List Ver) (w : World) (hl : l.length = n) (hu : SlC 3 w (.slice a n c) n (vcs l)) (hn : n ≤ 1048576) {b : Bool} (h : isH l = b) : Calls Tryd.prog 14 #[.slice a n c] w fun e w' => e = .returned (.bool b) ∧ Fr [] w w' := h ▸ ish_w a n c l w hl hu hn
theorem memE (x : Nat × Obj) (A : Mem) : [x] ++ A = [x] ++ (A ++ []) := by simp
theorem if50 {b : Bool} (h : (if b = true then (0 : Int) else 50) ≠ 0) : b = false := by cases b; rfl; exact absurd rfl h
theorem if0 {b : Bool} (h : ¬ (if b = true then (0 : Int) else 50) ≠ 0) : b = true := by
  cases b
  · exact absurd (by decide) h
  · rfl



end Go.Proofs.YthafhiemecfjiaaDoor
