/- What the statements of layer 7 try first. -/
import Derived.Test.YthafhiemecfjiaaDoorVersion3
set_option linter.unusedVariables false
set_option linter.unusedSimpArgs false
set_option maxRecDepth 100000
namespace Go.Proofs.YthafhiemecfjiaaDoor
open Go.Sx
def pP : Ver := (1, 1, ⟨#[107]⟩)
def pR : Ver := (2, 2, ⟨#[108]⟩)
def pV : Ver := (2, 3, ⟨#[]⟩)
theorem bdP (w : World) : (Instr.build 44 [(0, .int .i64 1), (1, .int .i64 1), (2, .string ⟨#[107]⟩)].toArray).run Tryd.prog w = .ok (.agg (vc pP).toArray) w := by kernel_rfl
theorem bdR (w : World) : (Instr.build 44 [(0, .int .i64 2), (1, .int .i64 2), (2, .string ⟨#[108]⟩)].toArray).run Tryd.prog w = .ok (.agg (vc pR).toArray) w := by kernel_rfl
theorem bdX (w : World) : (Instr.build 44 [(0, .int .i64 2), (1, .int .i64 3)].toArray).run Tryd.prog w = .ok (.agg (vc pV).toArray) w := by kernel_rfl
theorem bs2 (v u : Ver) (w : World) : (Instr.buildSlice 22 2 [(0, .agg (vc v).toArray), (1, .agg (vc u).toArray)].toArray).run Tryd.prog w = .ok (.slice (some ⟨w.heap.size, 0, none⟩) 2 2) (w.alloc (row 44 (vcs [v, u]))) := by kernel_rfl
theorem bs1 (v : Ver) (w : World) : (Instr.buildSlice 22 1 [(0, .agg (vc v).toArray)].toArray).run Tryd.prog w = .ok (.slice (some ⟨w.heap.size, 0, none⟩) 1 1) (w.alloc (row 44 (vcs [v]))) := by kernel_rfl
theorem act1 : actV [pP, pR] = (⟨#[108]⟩, true) := by kernel_rfl
theorem act2 : actV [pP, pV] = (⟨#[]⟩, false) := by kernel_rfl
theorem his1 : isH [pP, pR] = true := by kernel_rfl
theorem his2 : isH [pR] = false := by kernel_rfl
theorem nx1 : nextE [] pP = 0 := by kernel_rfl
theorem nx2 : nextE [] pR = 52 := by kernel_rfl
theorem nx3 : nextE [pP] pP = 51 := by kernel_rfl
theorem at1e : atV [pP, pR] 1 = [pP] := by kernel_rfl
section
variable (a : Option Addr) (n c : Nat) (l : List Ver) (w : World) (hl : l.length = n) (hu : SlC 3 w (.slice a n c) n (vcs l)) (hn : n ≤ 1048576) (hcn : n ≤ c)
include hl hu hn hcn
theorem check_f (h : isH l = false) : Calls Tryd.prog 11 #[.slice a n c] w fun e w' => e = .returned (.int .i64 50) ∧ Fr [] w w' := by
  have := check_w a n c l w hl hu hn hcn
  rwa [if_neg (by rw [h]; decide)] at this
end
theorem same_t (a a2 : Option Addr) (n c n2 c2 : Nat) (l l2 : List Ver) (w : World) (hl : l.length = n) (hu : SlC 3 w (.slice a n c) n (vcs l)) (hl2 : l2.length = n2) (hu2 : SlC 3 w (.slice a2 n2 c2) n2 (vcs l2)) (hn : n ≤ 1048577) (hn2 : n2 ≤ 1048577) (h : l = l2) : Calls Tryd.prog 10 #[.slice a n c, .slice a2 n2 c2] w fun e w' => e = .returned (.bool true) ∧ Fr [] w w' := by
  have := same_w a a2 n c n2 c2 l l2 w hl hu hl2 hu2 hn hn2
  rwa [decide_eq_true h] at this
theorem sz44y : (Tryd.prog.info? 44).map (·.size) = some 3 := by kernel_rfl
theorem z44y : (Tryd.prog.info? 44).bind (·.zero) = some (.agg (vc v0).toArray) := by kernel_rfl

theorem put_w (w : World) :
    Calls Tryd.prog 16 #[] w fun e w' => e = .returned (.agg (vc pP).toArray) ∧ Fr [] w w' := by
  refine calls_of (args := []) ([]) ([]) ([]) Tryd.func16 rfl rfl (okW0 _ _ _ _) ?_
  refine J_seq ?_
  refine J_region ?_
  refine L_alloc rfl rfl rfl rfl z44y (fun b0 => ?_)
  refine L_nil ?_
  change J _ _ _ _
  refine J_seq ?_
  refine J_region ?_
  refine L_v rfl rfl rfl (V_build (vs := [(0, .int .i64 1), (1, .int .i64 1), (2, .string ⟨#[107]⟩)]) rfl rfl bdP) ?_
  refine L_storeW 0 rfl rfl rfl rfl rfl rfl (szd sz44y (by first | rfl | (simp [dg_length, zd_length, *]; done))) (vc_one _) (by first | rfl | (simp [dg_length, zd_length, *]; done)) ?_
  refine L_nil ?_
  change J _ _ _ _
  refine J_ret ?_
  change Kret _ _ _ Exit.ret _
  refine ret1 rfl rfl (RV_c 0 rfl rfl Tryd.underlying44 rfl (szd sz44y (by first | rfl | (simp [dg_length, zd_length, *]; done)))) ?_
  exact fun w' h => ⟨rfl, h.fr⟩

end Go.Proofs.YthafhiemecfjiaaDoor
