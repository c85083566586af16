/- What the reference of layer 2 makes of a block. -/
import Derived.Test.YthafhiemecfjiaaDoorSha
set_option linter.unusedVariables false
set_option linter.unusedSimpArgs false
set_option maxRecDepth 100000
namespace Go.Proofs.YthafhiemecfjiaaDoor
open Go.Sx
theorem bdB (w : World) : (Instr.build 70 [(0, .int .u32 1779033703), (1, .int .u32 3144134277), (2, .int .u32 1013904242), (3, .int .u32 2773480762), (4, .int .u32 1359893119), (5, .int .u32 2600822924), (6, .int .u32 528734635), (7, .int .u32 1541459225)].toArray).run Tryd.prog w = .ok (.agg (wl R0.l).toArray) w := by kernel_rfl

theorem hnew_w (w : World) :
    Calls Tryd.prog 21 #[] w fun e w' => ∃ b, e = .returned (.pointer (some ⟨b, 0, none⟩)) ∧ Fr [] w w' ∧ w.heap.size ≤ b ∧ w'.heap[b]? = some (row 73 (hL R0.l (List.replicate 64 0) 0)) := by
  refine calls_of (args := []) ([]) ([]) ([]) Tryd.func21 rfl rfl (okW0 _ _ _ _) ?_
  refine J_seq ?_
  refine J_region ?_
  refine L_v rfl rfl rfl (V_assign rfl rfl) ?_
  refine L_nil ?_
  change J _ _ _ _
  refine J_seq ?_
  refine J_region ?_
  refine L_v rfl rfl rfl (V_build (vs := [(0, .int .u32 1779033703), (1, .int .u32 3144134277), (2, .int .u32 1013904242), (3, .int .u32 2773480762), (4, .int .u32 1359893119), (5, .int .u32 2600822924), (6, .int .u32 528734635), (7, .int .u32 1541459225)]) rfl rfl bdB) ?_
  refine L_v rfl rfl rfl (V_build (vs := [(0, .agg (wl R0.l).toArray)]) rfl rfl (bdH R0)) ?_
  refine L_box rfl rfl rfl rfl rfl (fun b0 => ?_)
  refine L_v rfl rfl rfl (V_assign rfl rfl) ?_
  refine L_nil ?_
  change J _ _ _ _
  refine J_ret ?_
  change Kret _ _ _ Exit.ret _
  refine ret1 rfl rfl (RV_t rfl) ?_
  exact fun w' h => ⟨b0, rfl, h.fr, (by simpa using h.may b0 (List.mem_singleton.2 rfl)), h.at (i := 0) rfl⟩

end Go.Proofs.YthafhiemecfjiaaDoor
