/- What the functions of layer 7 come to. -/
import Derived.Test.YthafhiemecfjiaaDoorOctetPut
import Derived.Test.YthafhiemecfjiaaDoorVersionPure
set_option linter.unusedVariables false
set_option linter.unusedSimpArgs false
set_option maxRecDepth 100000
namespace Go.Proofs.YthafhiemecfjiaaDoor
open Go.Sx
theorem bdV0 (w : World) : (Instr.build 44 ([] : List (Nat × Value)).toArray).run Tryd.prog w = .ok (.agg (vc v0).toArray) w := by kernel_rfl
theorem str0 {s : ByteArray} : s = ⟨#[]⟩ ↔ s.size = 0 := by
  constructor
  · rintro rfl; rfl
  · intro h
    apply ByteArray.ext
    exact Array.eq_empty_of_size_eq_zero h
theorem eqE (s : ByteArray) : decide (s = ⟨#[]⟩) = decide (s.size = 0) := decide_eq_decide.2 str0
theorem neE (s : ByteArray) : decide (s ≠ ⟨#[]⟩) = decide (s.size ≠ 0) := decide_eq_decide.2 (not_congr str0)
theorem elv : ElemOf Tryd.prog 44 3 32 (.agg (vc v0).toArray) := elem_of (by kernel_rfl) rfl
theorem vc_one (v : Ver) : ∀ u ∈ vc v, u.oneCell' = true := by
  intro u hu
  simp only [vc, List.mem_cons, List.not_mem_nil, or_false] at hu
  rcases hu with rfl | rfl | rfl <;> rfl
theorem sz3v : (Tryd.prog.info? 3).map (·.size) = some 1 := by kernel_rfl
theorem sz9v : (Tryd.prog.info? 9).map (·.size) = some 1 := by kernel_rfl
theorem sz42v : (Tryd.prog.info? 42).map (·.size) = some 1 := by kernel_rfl
theorem sz44v : (Tryd.prog.info? 44).map (·.size) = some 3 := by kernel_rfl
theorem z44v : (Tryd.prog.info? 44).bind (·.zero) = some (.agg (vc v0).toArray) := by kernel_rfl

theorem open_w (v : Ver) (w : World) :
    Calls Tryd.prog 26 #[.agg (vc v).toArray] w fun e w' => e = .returned (.bool (openV v)) ∧ Fr [] w w' := by
  refine calls_of (args := [.agg (vc v).toArray]) ([]) ([]) ([]) Tryd.func26 rfl rfl (okW0 _ _ _ _) ?_
  refine J_seq ?_
  refine J_region ?_
  refine L_box rfl rfl rfl rfl rfl (fun b0 => ?_)
  refine L_v rfl rfl rfl (V_assign rfl rfl) ?_
  refine L_nil ?_
  change J _ _ _ _
  refine J_seq ?_
  refine J_region ?_
  refine L_v rfl rfl rfl (V_fieldAddr rfl rfl Tryd.underlying44 rfl sz42v rfl) ?_
  refine L_v rfl rfl rfl (V_load1 0 rfl rfl rfl Tryd.underlying42 rfl (by first | rfl | exact dg_get (by omega) (by omega))) ?_
  refine L_v rfl rfl rfl (V_eql rfl rfl rfl (by first | exact decide_eq_true (by omega) | exact decide_eq_false (by omega) | rfl)) ?_
  refine L_v rfl rfl rfl (V_move rfl rfl) ?_
  refine L_split 6 rfl (fun h1 => ?_) (fun h1 => ?_)
  ·
    first | (have h1 := of_decide_eq_true h1) | (have h1 := of_decide_eq_false h1) | skip
    refine L_skip rfl rfl rfl rfl rfl rfl rfl ?_
    refine L_skip rfl rfl rfl rfl rfl rfl rfl ?_
    refine L_skip rfl rfl rfl rfl rfl rfl rfl ?_
    first | refine L_v rfl rfl rfl (V_pickT rfl rfl rfl) ?_ | refine L_v rfl rfl rfl (V_pickF rfl rfl rfl) ?_
    refine L_v rfl rfl rfl (V_assign rfl rfl) ?_
    refine L_nil ?_
    change J _ _ _ _
    refine J_ret ?_
    change Kret _ _ _ Exit.ret _
    refine ret1 rfl rfl (RV_t rfl) ?_
    exact fun w' h => ⟨congrArg (fun b => Ending.returned (.bool b)) ((decide_eq_true (.inl h1)).symm), h.fr⟩
  ·
    first | (have h1 := of_decide_eq_true h1) | (have h1 := of_decide_eq_false h1) | skip
    refine L_wv rfl rfl rfl rfl rfl rfl (V_fieldAddr rfl rfl Tryd.underlying44 rfl sz42v rfl) ?_
    refine L_wv rfl rfl rfl rfl rfl rfl (V_load1 0 rfl rfl rfl Tryd.underlying42 rfl (by first | rfl | exact dg_get (by omega) (by omega))) ?_
    refine L_wv rfl rfl rfl rfl rfl rfl (V_eql rfl rfl rfl (by first | exact decide_eq_true (by omega) | exact decide_eq_false (by omega) | rfl)) ?_
    first | refine L_v rfl rfl rfl (V_pickT rfl rfl rfl) ?_ | refine L_v rfl rfl rfl (V_pickF rfl rfl rfl) ?_
    refine L_v rfl rfl rfl (V_assign rfl rfl) ?_
    refine L_nil ?_
    change J _ _ _ _
    refine J_ret ?_
    change Kret _ _ _ Exit.ret _
    refine ret1 rfl rfl (RV_t rfl) ?_
    exact fun w' h => ⟨congrArg (fun b => Ending.returned (.bool b)) (by unfold openV; exact decide_eq_decide.2 ⟨fun h => .inr h, fun h => h.elim (fun h2 => absurd h2 h1) id⟩), h.fr⟩

theorem follows_w (x y : Int) (w : World) :
    Calls Tryd.prog 29 #[.int .i64 x, .int .i64 y] w fun e w' => e = .returned (.bool (decide (x = 0 ∨ x = 3) == decide (y = 1) && decide (y = 1 ∨ y = 2 ∨ y = 3))) ∧ Fr [] w w' := by
  refine calls_of (args := [.int .i64 x, .int .i64 y]) ([]) ([]) ([]) Tryd.func29 rfl rfl (okW0 _ _ _ _) ?_
  refine J_seq ?_
  refine J_region ?_
  refine L_v rfl rfl rfl (V_assign rfl rfl) ?_
  refine L_nil ?_
  change J _ _ _ _
  refine J_seq ?_
  refine J_seq ?_
  refine J_region ?_
  refine L_v rfl rfl rfl (V_move rfl rfl) ?_
  refine L_v rfl rfl rfl (V_eql rfl rfl rfl (by first | exact decide_eq_true (by omega) | exact decide_eq_false (by omega) | rfl)) ?_
  refine L_v rfl rfl rfl (V_move rfl rfl) ?_
  refine L_split 7 rfl (fun h1 => ?_) (fun h1 => ?_)
  ·
    first | (have h1 := of_decide_eq_true h1) | (have h1 := of_decide_eq_false h1) | skip
    refine L_skip rfl rfl rfl rfl rfl rfl rfl ?_
    refine L_skip rfl rfl rfl rfl rfl rfl rfl ?_
    first | refine L_v rfl rfl rfl (V_pickT rfl rfl rfl) ?_ | refine L_v rfl rfl rfl (V_pickF rfl rfl rfl) ?_
    refine L_nil ?_
    change J _ _ _ _
    refine J_true rfl ?_
    refine J_seq ?_
    refine J_region ?_
    refine L_v rfl rfl rfl (V_move rfl rfl) ?_
    refine L_v rfl rfl rfl (V_eql rfl rfl rfl (by first | exact decide_eq_true (by omega) | exact decide_eq_false (by omega) | rfl)) ?_
    refine L_v rfl rfl rfl (V_assign rfl rfl) ?_
    refine L_nil ?_
    change J _ _ _ _
    refine J_ret ?_
    change Kret _ _ _ Exit.ret _
    refine ret1 rfl rfl (RV_t rfl) ?_
    exact fun w' h => ⟨congrArg (fun b => Ending.returned (.bool b)) (by have : x = 0 := h1; by_cases h : y = 1 <;> simp [this, h]), h.fr⟩
  ·
    first | (have h1 := of_decide_eq_true h1) | (have h1 := of_decide_eq_false h1) | skip
    refine L_wv rfl rfl rfl rfl rfl rfl (V_move rfl rfl) ?_
    refine L_wv rfl rfl rfl rfl rfl rfl (V_eql rfl rfl rfl (by first | exact decide_eq_true (by omega) | exact decide_eq_false (by omega) | rfl)) ?_
    first | refine L_v rfl rfl rfl (V_pickT rfl rfl rfl) ?_ | refine L_v rfl rfl rfl (V_pickF rfl rfl rfl) ?_
    refine L_nil ?_
    change J _ _ _ _
    refine J_cond rfl (fun h2 => ?_) (fun h2 => ?_)
    ·
      first | (have h2 := of_decide_eq_true h2) | (have h2 := of_decide_eq_false h2) | skip
      refine J_seq ?_
      refine J_region ?_
      refine L_v rfl rfl rfl (V_move rfl rfl) ?_
      refine L_v rfl rfl rfl (V_eql rfl rfl rfl (by first | exact decide_eq_true (by omega) | exact decide_eq_false (by omega) | rfl)) ?_
      refine L_v rfl rfl rfl (V_assign rfl rfl) ?_
      refine L_nil ?_
      change J _ _ _ _
      refine J_ret ?_
      change Kret _ _ _ Exit.ret _
      refine ret1 rfl rfl (RV_t rfl) ?_
      exact fun w' h => ⟨congrArg (fun b => Ending.returned (.bool b)) (by by_cases h : y = 1 <;> simp [*]), h.fr⟩
    ·
      first | (have h2 := of_decide_eq_true h2) | (have h2 := of_decide_eq_false h2) | skip
      refine J_skip ?_
      change J _ _ _ _
      refine J_seq ?_
      refine J_region ?_
      refine L_v rfl rfl rfl (V_move rfl rfl) ?_
      refine L_v rfl rfl rfl (V_eql rfl rfl rfl (by first | exact decide_eq_true (by omega) | exact decide_eq_false (by omega) | rfl)) ?_
      refine L_v rfl rfl rfl (V_move rfl rfl) ?_
      refine L_split 15 rfl (fun h3 => ?_) (fun h3 => ?_)
      ·
        first | (have h3 := of_decide_eq_true h3) | (have h3 := of_decide_eq_false h3) | skip
        refine L_skip rfl rfl rfl rfl rfl rfl rfl ?_
        refine L_skip rfl rfl rfl rfl rfl rfl rfl ?_
        first | refine L_v rfl rfl rfl (V_pickT rfl rfl rfl) ?_ | refine L_v rfl rfl rfl (V_pickF rfl rfl rfl) ?_
        refine L_v rfl rfl rfl (V_assign rfl rfl) ?_
        refine L_nil ?_
        change J _ _ _ _
        refine J_ret ?_
        change Kret _ _ _ Exit.ret _
        refine ret1 rfl rfl (RV_t rfl) ?_
        exact fun w' h => ⟨congrArg (fun b => Ending.returned (.bool b)) (by simp [*]), h.fr⟩
      ·
        first | (have h3 := of_decide_eq_true h3) | (have h3 := of_decide_eq_false h3) | skip
        refine L_wv rfl rfl rfl rfl rfl rfl (V_move rfl rfl) ?_
        refine L_wv rfl rfl rfl rfl rfl rfl (V_eql rfl rfl rfl (by first | exact decide_eq_true (by omega) | exact decide_eq_false (by omega) | rfl)) ?_
        first | refine L_v rfl rfl rfl (V_pickT rfl rfl rfl) ?_ | refine L_v rfl rfl rfl (V_pickF rfl rfl rfl) ?_
        refine L_v rfl rfl rfl (V_assign rfl rfl) ?_
        refine L_nil ?_
        change J _ _ _ _
        refine J_ret ?_
        change Kret _ _ _ Exit.ret _
        refine ret1 rfl rfl (RV_t rfl) ?_
        exact fun w' h => ⟨congrArg (fun b => Ending.returned (.bool b)) (by by_cases h : y = 3 <;> simp [*]), h.fr⟩

theorem may_w (v : Ver) (w : World) :
    Calls Tryd.prog 25 #[.agg (vc v).toArray] w fun e w' => e = .returned (.bool (mayV v)) ∧ Fr [] w w' := by
  refine calls_of (args := [.agg (vc v).toArray]) ([]) ([]) ([]) Tryd.func25 rfl rfl (okW0 _ _ _ _) ?_
  refine J_seq ?_
  refine J_region ?_
  refine L_box rfl rfl rfl rfl rfl (fun b0 => ?_)
  refine L_v rfl rfl rfl (V_assign rfl rfl) ?_
  refine L_nil ?_
  change J _ _ _ _
  refine J_seq ?_
  refine J_region ?_
  refine L_v rfl rfl rfl (V_fieldAddr rfl rfl Tryd.underlying44 rfl sz3v rfl) ?_
  refine L_v rfl rfl rfl (V_load1 0 rfl rfl rfl Tryd.underlying3 rfl (by first | rfl | exact dg_get (by omega) (by omega))) ?_
  refine L_v rfl rfl rfl (V_geq rfl rfl rfl (by first | exact decide_eq_true (by omega) | exact decide_eq_false (by omega) | rfl)) ?_
  refine L_v rfl rfl rfl (V_move rfl rfl) ?_
  refine L_split 7 rfl (fun h1 => ?_) (fun h1 => ?_)
  ·
    first | (have h1 := of_decide_eq_true h1) | (have h1 := of_decide_eq_false h1) | skip
    refine L_wv rfl rfl rfl rfl rfl rfl (V_fieldAddr rfl rfl Tryd.underlying44 rfl sz3v rfl) ?_
    refine L_wv rfl rfl rfl rfl rfl rfl (V_load1 0 rfl rfl rfl Tryd.underlying3 rfl (by first | rfl | exact dg_get (by omega) (by omega))) ?_
    refine L_wv rfl rfl rfl rfl rfl rfl (V_leq rfl rfl rfl (by first | exact decide_eq_true (by omega) | exact decide_eq_false (by omega) | rfl)) ?_
    first | refine L_v rfl rfl rfl (V_pickT rfl rfl rfl) ?_ | refine L_v rfl rfl rfl (V_pickF rfl rfl rfl) ?_
    refine L_v rfl rfl rfl (V_assign rfl rfl) ?_
    refine L_nil ?_
    change J _ _ _ _
    refine J_seq ?_
    refine J_seq ?_
    refine J_region ?_
    refine L_v rfl rfl rfl (V_fieldAddr rfl rfl Tryd.underlying44 rfl sz42v rfl) ?_
    refine L_v rfl rfl rfl (V_load1 0 rfl rfl rfl Tryd.underlying42 rfl (by first | rfl | exact dg_get (by omega) (by omega))) ?_
    refine L_nil ?_
    change J _ _ _ _
    refine J_block ?_
    refine J_seq ?_
    refine J_block ?_
    refine J_seq ?_
    refine J_block ?_
    refine J_block ?_
    refine J_seq ?_
    refine J_seq ?_
    refine J_seq ?_
    refine J_region ?_
    refine L_v rfl rfl rfl (V_eql rfl rfl rfl (by first | exact decide_eq_true (by omega) | exact decide_eq_false (by omega) | rfl)) ?_
    refine L_v rfl rfl rfl (V_assign rfl rfl) ?_
    refine L_nil ?_
    change J _ _ _ _
    refine J_cond rfl (fun h2 => ?_) (fun h2 => ?_)
    ·
      first | (have h2 := of_decide_eq_true h2) | (have h2 := of_decide_eq_false h2) | skip
      refine J_exit ?_
      change J _ _ _ _
      refine J_seq ?_
      refine J_seq ?_
      refine J_region ?_
      refine L_v rfl rfl rfl (V_move rfl rfl) ?_
      refine L_v rfl rfl rfl (V_move rfl rfl) ?_
      refine L_split 21 rfl (fun h3 => ?_) (fun h3 => ?_)
      ·
        first | (have h3 := of_decide_eq_true h3) | (have h3 := of_decide_eq_false h3) | skip
        refine L_wv rfl rfl rfl rfl rfl rfl (V_fieldAddr rfl rfl Tryd.underlying44 rfl sz9v rfl) ?_
        refine L_wv rfl rfl rfl rfl rfl rfl (V_load1 0 rfl rfl rfl Tryd.underlying9 rfl (by first | rfl | exact dg_get (by omega) (by omega))) ?_
        refine L_wv rfl rfl rfl rfl rfl rfl (V_neS rfl rfl rfl (neE _)) ?_
        first | refine L_v rfl rfl rfl (V_pickT rfl rfl rfl) ?_ | refine L_v rfl rfl rfl (V_pickF rfl rfl rfl) ?_
        refine L_v rfl rfl rfl (V_move rfl rfl) ?_
        refine L_split 26 rfl (fun h4 => ?_) (fun h4 => ?_)
        ·
          first | (have h4 := of_decide_eq_true h4) | (have h4 := of_decide_eq_false h4) | skip
          refine L_wv rfl rfl rfl rfl rfl rfl (V_fieldAddr rfl rfl Tryd.underlying44 rfl sz9v rfl) ?_
          refine L_wv rfl rfl rfl rfl rfl rfl (V_load1 0 rfl rfl rfl Tryd.underlying9 rfl (by first | rfl | exact dg_get (by omega) (by omega))) ?_
          refine L_wv rfl rfl rfl rfl rfl rfl (V_lenS rfl rfl Tryd.underlying9 rfl) ?_
          refine L_wv rfl rfl rfl rfl rfl rfl (V_leq rfl rfl rfl (by first | exact decide_eq_true (by omega) | exact decide_eq_false (by omega) | rfl)) ?_
          first | refine L_v rfl rfl rfl (V_pickT rfl rfl rfl) ?_ | refine L_v rfl rfl rfl (V_pickF rfl rfl rfl) ?_
          refine L_v rfl rfl rfl (V_assign rfl rfl) ?_
          refine L_nil ?_
          change J _ _ _ _
          refine J_ret ?_
          change Kret _ _ _ Exit.ret _
          refine ret1 rfl rfl (RV_t rfl) ?_
          exact fun w' h => ⟨congrArg (fun b => Ending.returned (.bool b)) (by unfold mayV; first | exact (decide_eq_true (by omega)).symm | exact (decide_eq_false (by omega)).symm | exact decide_eq_decide.2 (by omega)), h.fr⟩
        ·
          first | (have h4 := of_decide_eq_true h4) | (have h4 := of_decide_eq_false h4) | skip
          refine L_skip rfl rfl rfl rfl rfl rfl rfl ?_
          refine L_skip rfl rfl rfl rfl rfl rfl rfl ?_
          refine L_skip rfl rfl rfl rfl rfl rfl rfl ?_
          refine L_skip rfl rfl rfl rfl rfl rfl rfl ?_
          first | refine L_v rfl rfl rfl (V_pickT rfl rfl rfl) ?_ | refine L_v rfl rfl rfl (V_pickF rfl rfl rfl) ?_
          refine L_v rfl rfl rfl (V_assign rfl rfl) ?_
          refine L_nil ?_
          change J _ _ _ _
          refine J_ret ?_
          change Kret _ _ _ Exit.ret _
          refine ret1 rfl rfl (RV_t rfl) ?_
          exact fun w' h => ⟨congrArg (fun b => Ending.returned (.bool b)) (by unfold mayV; first | exact (decide_eq_true (by omega)).symm | exact (decide_eq_false (by omega)).symm | exact decide_eq_decide.2 (by omega)), h.fr⟩
      ·
        first | (have h3 := of_decide_eq_true h3) | (have h3 := of_decide_eq_false h3) | skip
        refine L_skip rfl rfl rfl rfl rfl rfl rfl ?_
        refine L_skip rfl rfl rfl rfl rfl rfl rfl ?_
        refine L_skip rfl rfl rfl rfl rfl rfl rfl ?_
        first | refine L_v rfl rfl rfl (V_pickT rfl rfl rfl) ?_ | refine L_v rfl rfl rfl (V_pickF rfl rfl rfl) ?_
        refine L_v rfl rfl rfl (V_move rfl rfl) ?_
        refine L_skip rfl rfl rfl rfl rfl rfl rfl ?_
        refine L_skip rfl rfl rfl rfl rfl rfl rfl ?_
        refine L_skip rfl rfl rfl rfl rfl rfl rfl ?_
        refine L_skip rfl rfl rfl rfl rfl rfl rfl ?_
        first | refine L_v rfl rfl rfl (V_pickT rfl rfl rfl) ?_ | refine L_v rfl rfl rfl (V_pickF rfl rfl rfl) ?_
        refine L_v rfl rfl rfl (V_assign rfl rfl) ?_
        refine L_nil ?_
        change J _ _ _ _
        refine J_ret ?_
        change Kret _ _ _ Exit.ret _
        refine ret1 rfl rfl (RV_t rfl) ?_
        exact fun w' h => ⟨congrArg (fun b => Ending.returned (.bool b)) (by unfold mayV; first | exact (decide_eq_true (by omega)).symm | exact (decide_eq_false (by omega)).symm | exact decide_eq_decide.2 (by omega)), h.fr⟩
    ·
      first | (have h2 := of_decide_eq_true h2) | (have h2 := of_decide_eq_false h2) | skip
      refine J_skip ?_
      change J _ _ _ _
      refine J_seq ?_
      refine J_seq ?_
      refine J_region ?_
      refine L_v rfl rfl rfl (V_eql rfl rfl rfl (by first | exact decide_eq_true (by omega) | exact decide_eq_false (by omega) | rfl)) ?_
      refine L_v rfl rfl rfl (V_assign rfl rfl) ?_
      refine L_nil ?_
      change J _ _ _ _
      refine J_cond rfl (fun h3 => ?_) (fun h3 => ?_)
      ·
        first | (have h3 := of_decide_eq_true h3) | (have h3 := of_decide_eq_false h3) | skip
        refine J_exit ?_
        change J _ _ _ _
        refine J_seq ?_
        refine J_seq ?_
        refine J_region ?_
        refine L_v rfl rfl rfl (V_move rfl rfl) ?_
        refine L_v rfl rfl rfl (V_move rfl rfl) ?_
        refine L_split 21 rfl (fun h4 => ?_) (fun h4 => ?_)
        ·
          first | (have h4 := of_decide_eq_true h4) | (have h4 := of_decide_eq_false h4) | skip
          refine L_wv rfl rfl rfl rfl rfl rfl (V_fieldAddr rfl rfl Tryd.underlying44 rfl sz9v rfl) ?_
          refine L_wv rfl rfl rfl rfl rfl rfl (V_load1 0 rfl rfl rfl Tryd.underlying9 rfl (by first | rfl | exact dg_get (by omega) (by omega))) ?_
          refine L_wv rfl rfl rfl rfl rfl rfl (V_neS rfl rfl rfl (neE _)) ?_
          first | refine L_v rfl rfl rfl (V_pickT rfl rfl rfl) ?_ | refine L_v rfl rfl rfl (V_pickF rfl rfl rfl) ?_
          refine L_v rfl rfl rfl (V_move rfl rfl) ?_
          refine L_split 26 rfl (fun h5 => ?_) (fun h5 => ?_)
          ·
            first | (have h5 := of_decide_eq_true h5) | (have h5 := of_decide_eq_false h5) | skip
            refine L_wv rfl rfl rfl rfl rfl rfl (V_fieldAddr rfl rfl Tryd.underlying44 rfl sz9v rfl) ?_
            refine L_wv rfl rfl rfl rfl rfl rfl (V_load1 0 rfl rfl rfl Tryd.underlying9 rfl (by first | rfl | exact dg_get (by omega) (by omega))) ?_
            refine L_wv rfl rfl rfl rfl rfl rfl (V_lenS rfl rfl Tryd.underlying9 rfl) ?_
            refine L_wv rfl rfl rfl rfl rfl rfl (V_leq rfl rfl rfl (by first | exact decide_eq_true (by omega) | exact decide_eq_false (by omega) | rfl)) ?_
            first | refine L_v rfl rfl rfl (V_pickT rfl rfl rfl) ?_ | refine L_v rfl rfl rfl (V_pickF rfl rfl rfl) ?_
            refine L_v rfl rfl rfl (V_assign rfl rfl) ?_
            refine L_nil ?_
            change J _ _ _ _
            refine J_ret ?_
            change Kret _ _ _ Exit.ret _
            refine ret1 rfl rfl (RV_t rfl) ?_
            exact fun w' h => ⟨congrArg (fun b => Ending.returned (.bool b)) (by unfold mayV; first | exact (decide_eq_true (by omega)).symm | exact (decide_eq_false (by omega)).symm | exact decide_eq_decide.2 (by omega)), h.fr⟩
          ·
            first | (have h5 := of_decide_eq_true h5) | (have h5 := of_decide_eq_false h5) | skip
            refine L_skip rfl rfl rfl rfl rfl rfl rfl ?_
            refine L_skip rfl rfl rfl rfl rfl rfl rfl ?_
            refine L_skip rfl rfl rfl rfl rfl rfl rfl ?_
            refine L_skip rfl rfl rfl rfl rfl rfl rfl ?_
            first | refine L_v rfl rfl rfl (V_pickT rfl rfl rfl) ?_ | refine L_v rfl rfl rfl (V_pickF rfl rfl rfl) ?_
            refine L_v rfl rfl rfl (V_assign rfl rfl) ?_
            refine L_nil ?_
            change J _ _ _ _
            refine J_ret ?_
            change Kret _ _ _ Exit.ret _
            refine ret1 rfl rfl (RV_t rfl) ?_
            exact fun w' h => ⟨congrArg (fun b => Ending.returned (.bool b)) (by unfold mayV; first | exact (decide_eq_true (by omega)).symm | exact (decide_eq_false (by omega)).symm | exact decide_eq_decide.2 (by omega)), h.fr⟩
        ·
          first | (have h4 := of_decide_eq_true h4) | (have h4 := of_decide_eq_false h4) | skip
          refine L_skip rfl rfl rfl rfl rfl rfl rfl ?_
          refine L_skip rfl rfl rfl rfl rfl rfl rfl ?_
          refine L_skip rfl rfl rfl rfl rfl rfl rfl ?_
          first | refine L_v rfl rfl rfl (V_pickT rfl rfl rfl) ?_ | refine L_v rfl rfl rfl (V_pickF rfl rfl rfl) ?_
          refine L_v rfl rfl rfl (V_move rfl rfl) ?_
          refine L_skip rfl rfl rfl rfl rfl rfl rfl ?_
          refine L_skip rfl rfl rfl rfl rfl rfl rfl ?_
          refine L_skip rfl rfl rfl rfl rfl rfl rfl ?_
          refine L_skip rfl rfl rfl rfl rfl rfl rfl ?_
          first | refine L_v rfl rfl rfl (V_pickT rfl rfl rfl) ?_ | refine L_v rfl rfl rfl (V_pickF rfl rfl rfl) ?_
          refine L_v rfl rfl rfl (V_assign rfl rfl) ?_
          refine L_nil ?_
          change J _ _ _ _
          refine J_ret ?_
          change Kret _ _ _ Exit.ret _
          refine ret1 rfl rfl (RV_t rfl) ?_
          exact fun w' h => ⟨congrArg (fun b => Ending.returned (.bool b)) (by unfold mayV; first | exact (decide_eq_true (by omega)).symm | exact (decide_eq_false (by omega)).symm | exact decide_eq_decide.2 (by omega)), h.fr⟩
      ·
        first | (have h3 := of_decide_eq_true h3) | (have h3 := of_decide_eq_false h3) | skip
        refine J_skip ?_
        change J _ _ _ _
        refine J_seq ?_
        refine J_region ?_
        refine L_v rfl rfl rfl (V_eql rfl rfl rfl (by first | exact decide_eq_true (by omega) | exact decide_eq_false (by omega) | rfl)) ?_
        refine L_v rfl rfl rfl (V_assign rfl rfl) ?_
        refine L_nil ?_
        change J _ _ _ _
        refine J_cond rfl (fun h4 => ?_) (fun h4 => ?_)
        ·
          first | (have h4 := of_decide_eq_true h4) | (have h4 := of_decide_eq_false h4) | skip
          refine J_exit ?_
          change J _ _ _ _
          refine J_seq ?_
          refine J_seq ?_
          refine J_region ?_
          refine L_v rfl rfl rfl (V_move rfl rfl) ?_
          refine L_v rfl rfl rfl (V_move rfl rfl) ?_
          refine L_split 33 rfl (fun h5 => ?_) (fun h5 => ?_)
          ·
            first | (have h5 := of_decide_eq_true h5) | (have h5 := of_decide_eq_false h5) | skip
            refine L_wv rfl rfl rfl rfl rfl rfl (V_fieldAddr rfl rfl Tryd.underlying44 rfl sz9v rfl) ?_
            refine L_wv rfl rfl rfl rfl rfl rfl (V_load1 0 rfl rfl rfl Tryd.underlying9 rfl (by first | rfl | exact dg_get (by omega) (by omega))) ?_
            refine L_wv rfl rfl rfl rfl rfl rfl (V_eqS rfl rfl rfl (eqE _)) ?_
            first | refine L_v rfl rfl rfl (V_pickT rfl rfl rfl) ?_ | refine L_v rfl rfl rfl (V_pickF rfl rfl rfl) ?_
            refine L_v rfl rfl rfl (V_assign rfl rfl) ?_
            refine L_nil ?_
            change J _ _ _ _
            refine J_ret ?_
            change Kret _ _ _ Exit.ret _
            refine ret1 rfl rfl (RV_t rfl) ?_
            exact fun w' h => ⟨congrArg (fun b => Ending.returned (.bool b)) (by unfold mayV; first | exact (decide_eq_true (by omega)).symm | exact (decide_eq_false (by omega)).symm | exact decide_eq_decide.2 (by omega)), h.fr⟩
          ·
            first | (have h5 := of_decide_eq_true h5) | (have h5 := of_decide_eq_false h5) | skip
            refine L_skip rfl rfl rfl rfl rfl rfl rfl ?_
            refine L_skip rfl rfl rfl rfl rfl rfl rfl ?_
            refine L_skip rfl rfl rfl rfl rfl rfl rfl ?_
            first | refine L_v rfl rfl rfl (V_pickT rfl rfl rfl) ?_ | refine L_v rfl rfl rfl (V_pickF rfl rfl rfl) ?_
            refine L_v rfl rfl rfl (V_assign rfl rfl) ?_
            refine L_nil ?_
            change J _ _ _ _
            refine J_ret ?_
            change Kret _ _ _ Exit.ret _
            refine ret1 rfl rfl (RV_t rfl) ?_
            exact fun w' h => ⟨congrArg (fun b => Ending.returned (.bool b)) (by unfold mayV; first | exact (decide_eq_true (by omega)).symm | exact (decide_eq_false (by omega)).symm | exact decide_eq_decide.2 (by omega)), h.fr⟩
        ·
          first | (have h4 := of_decide_eq_true h4) | (have h4 := of_decide_eq_false h4) | skip
          refine J_skip ?_
          change J _ _ _ _
          refine J_exit ?_
          change J _ _ _ _
          refine J_seq ?_
          refine J_region ?_
          refine L_v rfl rfl rfl (V_assign rfl rfl) ?_
          refine L_nil ?_
          change J _ _ _ _
          refine J_ret ?_
          change Kret _ _ _ Exit.ret _
          refine ret1 rfl rfl (RV_t rfl) ?_
          exact fun w' h => ⟨congrArg (fun b => Ending.returned (.bool b)) (by unfold mayV; first | exact (decide_eq_true (by omega)).symm | exact (decide_eq_false (by omega)).symm | exact decide_eq_decide.2 (by omega)), h.fr⟩
  ·
    first | (have h1 := of_decide_eq_true h1) | (have h1 := of_decide_eq_false h1) | skip
    refine L_skip rfl rfl rfl rfl rfl rfl rfl ?_
    refine L_skip rfl rfl rfl rfl rfl rfl rfl ?_
    refine L_skip rfl rfl rfl rfl rfl rfl rfl ?_
    first | refine L_v rfl rfl rfl (V_pickT rfl rfl rfl) ?_ | refine L_v rfl rfl rfl (V_pickF rfl rfl rfl) ?_
    refine L_v rfl rfl rfl (V_assign rfl rfl) ?_
    refine L_nil ?_
    change J _ _ _ _
    refine J_seq ?_
    refine J_seq ?_
    refine J_region ?_
    refine L_v rfl rfl rfl (V_fieldAddr rfl rfl Tryd.underlying44 rfl sz42v rfl) ?_
    refine L_v rfl rfl rfl (V_load1 0 rfl rfl rfl Tryd.underlying42 rfl (by first | rfl | exact dg_get (by omega) (by omega))) ?_
    refine L_nil ?_
    change J _ _ _ _
    refine J_block ?_
    refine J_seq ?_
    refine J_block ?_
    refine J_seq ?_
    refine J_block ?_
    refine J_block ?_
    refine J_seq ?_
    refine J_seq ?_
    refine J_seq ?_
    refine J_region ?_
    refine L_v rfl rfl rfl (V_eql rfl rfl rfl (by first | exact decide_eq_true (by omega) | exact decide_eq_false (by omega) | rfl)) ?_
    refine L_v rfl rfl rfl (V_assign rfl rfl) ?_
    refine L_nil ?_
    change J _ _ _ _
    refine J_cond rfl (fun h2 => ?_) (fun h2 => ?_)
    ·
      first | (have h2 := of_decide_eq_true h2) | (have h2 := of_decide_eq_false h2) | skip
      refine J_exit ?_
      change J _ _ _ _
      refine J_seq ?_
      refine J_seq ?_
      refine J_region ?_
      refine L_v rfl rfl rfl (V_move rfl rfl) ?_
      refine L_v rfl rfl rfl (V_move rfl rfl) ?_
      refine L_skip rfl rfl rfl rfl rfl rfl rfl ?_
      refine L_skip rfl rfl rfl rfl rfl rfl rfl ?_
      refine L_skip rfl rfl rfl rfl rfl rfl rfl ?_
      first | refine L_v rfl rfl rfl (V_pickT rfl rfl rfl) ?_ | refine L_v rfl rfl rfl (V_pickF rfl rfl rfl) ?_
      refine L_v rfl rfl rfl (V_move rfl rfl) ?_
      refine L_skip rfl rfl rfl rfl rfl rfl rfl ?_
      refine L_skip rfl rfl rfl rfl rfl rfl rfl ?_
      refine L_skip rfl rfl rfl rfl rfl rfl rfl ?_
      refine L_skip rfl rfl rfl rfl rfl rfl rfl ?_
      first | refine L_v rfl rfl rfl (V_pickT rfl rfl rfl) ?_ | refine L_v rfl rfl rfl (V_pickF rfl rfl rfl) ?_
      refine L_v rfl rfl rfl (V_assign rfl rfl) ?_
      refine L_nil ?_
      change J _ _ _ _
      refine J_ret ?_
      change Kret _ _ _ Exit.ret _
      refine ret1 rfl rfl (RV_t rfl) ?_
      exact fun w' h => ⟨congrArg (fun b => Ending.returned (.bool b)) (by unfold mayV; first | exact (decide_eq_true (by omega)).symm | exact (decide_eq_false (by omega)).symm | exact decide_eq_decide.2 (by omega)), h.fr⟩
    ·
      first | (have h2 := of_decide_eq_true h2) | (have h2 := of_decide_eq_false h2) | skip
      refine J_skip ?_
      change J _ _ _ _
      refine J_seq ?_
      refine J_seq ?_
      refine J_region ?_
      refine L_v rfl rfl rfl (V_eql rfl rfl rfl (by first | exact decide_eq_true (by omega) | exact decide_eq_false (by omega) | rfl)) ?_
      refine L_v rfl rfl rfl (V_assign rfl rfl) ?_
      refine L_nil ?_
      change J _ _ _ _
      refine J_cond rfl (fun h3 => ?_) (fun h3 => ?_)
      ·
        first | (have h3 := of_decide_eq_true h3) | (have h3 := of_decide_eq_false h3) | skip
        refine J_exit ?_
        change J _ _ _ _
        refine J_seq ?_
        refine J_seq ?_
        refine J_region ?_
        refine L_v rfl rfl rfl (V_move rfl rfl) ?_
        refine L_v rfl rfl rfl (V_move rfl rfl) ?_
        refine L_skip rfl rfl rfl rfl rfl rfl rfl ?_
        refine L_skip rfl rfl rfl rfl rfl rfl rfl ?_
        refine L_skip rfl rfl rfl rfl rfl rfl rfl ?_
        first | refine L_v rfl rfl rfl (V_pickT rfl rfl rfl) ?_ | refine L_v rfl rfl rfl (V_pickF rfl rfl rfl) ?_
        refine L_v rfl rfl rfl (V_move rfl rfl) ?_
        refine L_skip rfl rfl rfl rfl rfl rfl rfl ?_
        refine L_skip rfl rfl rfl rfl rfl rfl rfl ?_
        refine L_skip rfl rfl rfl rfl rfl rfl rfl ?_
        refine L_skip rfl rfl rfl rfl rfl rfl rfl ?_
        first | refine L_v rfl rfl rfl (V_pickT rfl rfl rfl) ?_ | refine L_v rfl rfl rfl (V_pickF rfl rfl rfl) ?_
        refine L_v rfl rfl rfl (V_assign rfl rfl) ?_
        refine L_nil ?_
        change J _ _ _ _
        refine J_ret ?_
        change Kret _ _ _ Exit.ret _
        refine ret1 rfl rfl (RV_t rfl) ?_
        exact fun w' h => ⟨congrArg (fun b => Ending.returned (.bool b)) (by unfold mayV; first | exact (decide_eq_true (by omega)).symm | exact (decide_eq_false (by omega)).symm | exact decide_eq_decide.2 (by omega)), h.fr⟩
      ·
        first | (have h3 := of_decide_eq_true h3) | (have h3 := of_decide_eq_false h3) | skip
        refine J_skip ?_
        change J _ _ _ _
        refine J_seq ?_
        refine J_region ?_
        refine L_v rfl rfl rfl (V_eql rfl rfl rfl (by first | exact decide_eq_true (by omega) | exact decide_eq_false (by omega) | rfl)) ?_
        refine L_v rfl rfl rfl (V_assign rfl rfl) ?_
        refine L_nil ?_
        change J _ _ _ _
        refine J_cond rfl (fun h4 => ?_) (fun h4 => ?_)
        ·
          first | (have h4 := of_decide_eq_true h4) | (have h4 := of_decide_eq_false h4) | skip
          refine J_exit ?_
          change J _ _ _ _
          refine J_seq ?_
          refine J_seq ?_
          refine J_region ?_
          refine L_v rfl rfl rfl (V_move rfl rfl) ?_
          refine L_v rfl rfl rfl (V_move rfl rfl) ?_
          refine L_skip rfl rfl rfl rfl rfl rfl rfl ?_
          refine L_skip rfl rfl rfl rfl rfl rfl rfl ?_
          refine L_skip rfl rfl rfl rfl rfl rfl rfl ?_
          first | refine L_v rfl rfl rfl (V_pickT rfl rfl rfl) ?_ | refine L_v rfl rfl rfl (V_pickF rfl rfl rfl) ?_
          refine L_v rfl rfl rfl (V_assign rfl rfl) ?_
          refine L_nil ?_
          change J _ _ _ _
          refine J_ret ?_
          change Kret _ _ _ Exit.ret _
          refine ret1 rfl rfl (RV_t rfl) ?_
          exact fun w' h => ⟨congrArg (fun b => Ending.returned (.bool b)) (by unfold mayV; first | exact (decide_eq_true (by omega)).symm | exact (decide_eq_false (by omega)).symm | exact decide_eq_decide.2 (by omega)), h.fr⟩
        ·
          first | (have h4 := of_decide_eq_true h4) | (have h4 := of_decide_eq_false h4) | skip
          refine J_skip ?_
          change J _ _ _ _
          refine J_exit ?_
          change J _ _ _ _
          refine J_seq ?_
          refine J_region ?_
          refine L_v rfl rfl rfl (V_assign rfl rfl) ?_
          refine L_nil ?_
          change J _ _ _ _
          refine J_ret ?_
          change Kret _ _ _ Exit.ret _
          refine ret1 rfl rfl (RV_t rfl) ?_
          exact fun w' h => ⟨congrArg (fun b => Ending.returned (.bool b)) (by unfold mayV; first | exact (decide_eq_true (by omega)).symm | exact (decide_eq_false (by omega)).symm | exact decide_eq_decide.2 (by omega)), h.fr⟩

theorem rmay_w (v : Ver) (w : World) :
    Calls Tryd.prog 28 #[.agg (vc v).toArray] w fun e w' => e = .returned (.bool (mayV v)) ∧ Fr [] w w' := by
  refine calls_of (args := [.agg (vc v).toArray]) ([]) ([]) ([]) Tryd.func28 rfl rfl (okW0 _ _ _ _) ?_
  refine J_seq ?_
  refine J_region ?_
  refine L_box rfl rfl rfl rfl rfl (fun b0 => ?_)
  refine L_v rfl rfl rfl (V_assign rfl rfl) ?_
  refine L_nil ?_
  change J _ _ _ _
  refine J_seq ?_
  refine J_seq ?_
  refine J_region ?_
  refine L_v rfl rfl rfl (V_fieldAddr rfl rfl Tryd.underlying44 rfl sz3v rfl) ?_
  refine L_v rfl rfl rfl (V_load1 0 rfl rfl rfl Tryd.underlying3 rfl (by first | rfl | exact dg_get (by omega) (by omega))) ?_
  refine L_v rfl rfl rfl (V_lss rfl rfl rfl (by first | exact decide_eq_true (by omega) | exact decide_eq_false (by omega) | rfl)) ?_
  refine L_v rfl rfl rfl (V_move rfl rfl) ?_
  refine L_split 6 rfl (fun h1 => ?_) (fun h1 => ?_)
  ·
    first | (have h1 := of_decide_eq_true h1) | (have h1 := of_decide_eq_false h1) | skip
    refine L_skip rfl rfl rfl rfl rfl rfl rfl ?_
    refine L_skip rfl rfl rfl rfl rfl rfl rfl ?_
    refine L_skip rfl rfl rfl rfl rfl rfl rfl ?_
    first | refine L_v rfl rfl rfl (V_pickT rfl rfl rfl) ?_ | refine L_v rfl rfl rfl (V_pickF rfl rfl rfl) ?_
    refine L_nil ?_
    change J _ _ _ _
    refine J_true rfl ?_
    refine J_seq ?_
    refine J_region ?_
    refine L_v rfl rfl rfl (V_assign rfl rfl) ?_
    refine L_nil ?_
    change J _ _ _ _
    refine J_ret ?_
    change Kret _ _ _ Exit.ret _
    refine ret1 rfl rfl (RV_t rfl) ?_
    exact fun w' h => ⟨congrArg (fun b => Ending.returned (.bool b)) (by unfold mayV; first | exact (decide_eq_true (by omega)).symm | exact (decide_eq_false (by omega)).symm | exact decide_eq_decide.2 (by omega)), h.fr⟩
  ·
    first | (have h1 := of_decide_eq_true h1) | (have h1 := of_decide_eq_false h1) | skip
    refine L_wv rfl rfl rfl rfl rfl rfl (V_fieldAddr rfl rfl Tryd.underlying44 rfl sz3v rfl) ?_
    refine L_wv rfl rfl rfl rfl rfl rfl (V_load1 0 rfl rfl rfl Tryd.underlying3 rfl (by first | rfl | exact dg_get (by omega) (by omega))) ?_
    refine L_wv rfl rfl rfl rfl rfl rfl (V_gtr rfl rfl rfl (by first | exact decide_eq_true (by omega) | exact decide_eq_false (by omega) | rfl)) ?_
    first | refine L_v rfl rfl rfl (V_pickT rfl rfl rfl) ?_ | refine L_v rfl rfl rfl (V_pickF rfl rfl rfl) ?_
    refine L_nil ?_
    change J _ _ _ _
    refine J_cond rfl (fun h2 => ?_) (fun h2 => ?_)
    ·
      first | (have h2 := of_decide_eq_true h2) | (have h2 := of_decide_eq_false h2) | skip
      refine J_seq ?_
      refine J_region ?_
      refine L_v rfl rfl rfl (V_assign rfl rfl) ?_
      refine L_nil ?_
      change J _ _ _ _
      refine J_ret ?_
      change Kret _ _ _ Exit.ret _
      refine ret1 rfl rfl (RV_t rfl) ?_
      exact fun w' h => ⟨congrArg (fun b => Ending.returned (.bool b)) (by unfold mayV; first | exact (decide_eq_true (by omega)).symm | exact (decide_eq_false (by omega)).symm | exact decide_eq_decide.2 (by omega)), h.fr⟩
    ·
      first | (have h2 := of_decide_eq_true h2) | (have h2 := of_decide_eq_false h2) | skip
      refine J_skip ?_
      change J _ _ _ _
      refine J_seq ?_
      refine J_seq ?_
      refine J_region ?_
      refine L_v rfl rfl rfl (V_fieldAddr rfl rfl Tryd.underlying44 rfl sz42v rfl) ?_
      refine L_v rfl rfl rfl (V_load1 0 rfl rfl rfl Tryd.underlying42 rfl (by first | rfl | exact dg_get (by omega) (by omega))) ?_
      refine L_nil ?_
      change J _ _ _ _
      refine J_block ?_
      refine J_seq ?_
      refine J_seq ?_
      refine J_region ?_
      refine L_v rfl rfl rfl (V_eql rfl rfl rfl (by first | exact decide_eq_true (by omega) | exact decide_eq_false (by omega) | rfl)) ?_
      refine L_v rfl rfl rfl (V_assign rfl rfl) ?_
      refine L_nil ?_
      change J _ _ _ _
      refine J_cond rfl (fun h3 => ?_) (fun h3 => ?_)
      ·
        first | (have h3 := of_decide_eq_true h3) | (have h3 := of_decide_eq_false h3) | skip
        refine J_skip ?_
        change J _ _ _ _
        refine J_cond rfl (fun h4 => ?_) (fun h4 => ?_)
        ·
          first | (have h4 := of_decide_eq_true h4) | (have h4 := of_decide_eq_false h4) | skip
          refine J_seq ?_
          refine J_region ?_
          refine L_v rfl rfl rfl (V_fieldAddr rfl rfl Tryd.underlying44 rfl sz9v rfl) ?_
          refine L_v rfl rfl rfl (V_load1 0 rfl rfl rfl Tryd.underlying9 rfl (by first | rfl | exact dg_get (by omega) (by omega))) ?_
          refine L_v rfl rfl rfl (V_lenS rfl rfl Tryd.underlying9 rfl) ?_
          refine L_v rfl rfl rfl (V_geq rfl rfl rfl (by first | exact decide_eq_true (by omega) | exact decide_eq_false (by omega) | rfl)) ?_
          refine L_v rfl rfl rfl (V_move rfl rfl) ?_
          refine L_split 20 rfl (fun h5 => ?_) (fun h5 => ?_)
          ·
            first | (have h5 := of_decide_eq_true h5) | (have h5 := of_decide_eq_false h5) | skip
            refine L_wv rfl rfl rfl rfl rfl rfl (V_fieldAddr rfl rfl Tryd.underlying44 rfl sz9v rfl) ?_
            refine L_wv rfl rfl rfl rfl rfl rfl (V_load1 0 rfl rfl rfl Tryd.underlying9 rfl (by first | rfl | exact dg_get (by omega) (by omega))) ?_
            refine L_wv rfl rfl rfl rfl rfl rfl (V_lenS rfl rfl Tryd.underlying9 rfl) ?_
            refine L_wv rfl rfl rfl rfl rfl rfl (V_leq rfl rfl rfl (by first | exact decide_eq_true (by omega) | exact decide_eq_false (by omega) | rfl)) ?_
            first | refine L_v rfl rfl rfl (V_pickT rfl rfl rfl) ?_ | refine L_v rfl rfl rfl (V_pickF rfl rfl rfl) ?_
            refine L_v rfl rfl rfl (V_assign rfl rfl) ?_
            refine L_nil ?_
            change J _ _ _ _
            refine J_ret ?_
            change Kret _ _ _ Exit.ret _
            refine ret1 rfl rfl (RV_t rfl) ?_
            exact fun w' h => ⟨congrArg (fun b => Ending.returned (.bool b)) (by unfold mayV; first | exact (decide_eq_true (by omega)).symm | exact (decide_eq_false (by omega)).symm | exact decide_eq_decide.2 (by omega)), h.fr⟩
          ·
            first | (have h5 := of_decide_eq_true h5) | (have h5 := of_decide_eq_false h5) | skip
            refine L_skip rfl rfl rfl rfl rfl rfl rfl ?_
            refine L_skip rfl rfl rfl rfl rfl rfl rfl ?_
            refine L_skip rfl rfl rfl rfl rfl rfl rfl ?_
            refine L_skip rfl rfl rfl rfl rfl rfl rfl ?_
            first | refine L_v rfl rfl rfl (V_pickT rfl rfl rfl) ?_ | refine L_v rfl rfl rfl (V_pickF rfl rfl rfl) ?_
            refine L_v rfl rfl rfl (V_assign rfl rfl) ?_
            refine L_nil ?_
            change J _ _ _ _
            refine J_ret ?_
            change Kret _ _ _ Exit.ret _
            refine ret1 rfl rfl (RV_t rfl) ?_
            exact fun w' h => ⟨congrArg (fun b => Ending.returned (.bool b)) (by unfold mayV; first | exact (decide_eq_true (by omega)).symm | exact (decide_eq_false (by omega)).symm | exact decide_eq_decide.2 (by omega)), h.fr⟩
        ·
          first | (have h4 := of_decide_eq_true h4) | (have h4 := of_decide_eq_false h4) | skip
          exact absurd h3 h4
      ·
        first | (have h3 := of_decide_eq_true h3) | (have h3 := of_decide_eq_false h3) | skip
        refine J_region ?_
        refine L_v rfl rfl rfl (V_eql rfl rfl rfl (by first | exact decide_eq_true (by omega) | exact decide_eq_false (by omega) | rfl)) ?_
        refine L_v rfl rfl rfl (V_assign rfl rfl) ?_
        refine L_nil ?_
        change J _ _ _ _
        refine J_cond rfl (fun h4 => ?_) (fun h4 => ?_)
        ·
          first | (have h4 := of_decide_eq_true h4) | (have h4 := of_decide_eq_false h4) | skip
          refine J_seq ?_
          refine J_region ?_
          refine L_v rfl rfl rfl (V_fieldAddr rfl rfl Tryd.underlying44 rfl sz9v rfl) ?_
          refine L_v rfl rfl rfl (V_load1 0 rfl rfl rfl Tryd.underlying9 rfl (by first | rfl | exact dg_get (by omega) (by omega))) ?_
          refine L_v rfl rfl rfl (V_lenS rfl rfl Tryd.underlying9 rfl) ?_
          refine L_v rfl rfl rfl (V_geq rfl rfl rfl (by first | exact decide_eq_true (by omega) | exact decide_eq_false (by omega) | rfl)) ?_
          refine L_v rfl rfl rfl (V_move rfl rfl) ?_
          refine L_split 20 rfl (fun h5 => ?_) (fun h5 => ?_)
          ·
            first | (have h5 := of_decide_eq_true h5) | (have h5 := of_decide_eq_false h5) | skip
            refine L_wv rfl rfl rfl rfl rfl rfl (V_fieldAddr rfl rfl Tryd.underlying44 rfl sz9v rfl) ?_
            refine L_wv rfl rfl rfl rfl rfl rfl (V_load1 0 rfl rfl rfl Tryd.underlying9 rfl (by first | rfl | exact dg_get (by omega) (by omega))) ?_
            refine L_wv rfl rfl rfl rfl rfl rfl (V_lenS rfl rfl Tryd.underlying9 rfl) ?_
            refine L_wv rfl rfl rfl rfl rfl rfl (V_leq rfl rfl rfl (by first | exact decide_eq_true (by omega) | exact decide_eq_false (by omega) | rfl)) ?_
            first | refine L_v rfl rfl rfl (V_pickT rfl rfl rfl) ?_ | refine L_v rfl rfl rfl (V_pickF rfl rfl rfl) ?_
            refine L_v rfl rfl rfl (V_assign rfl rfl) ?_
            refine L_nil ?_
            change J _ _ _ _
            refine J_ret ?_
            change Kret _ _ _ Exit.ret _
            refine ret1 rfl rfl (RV_t rfl) ?_
            exact fun w' h => ⟨congrArg (fun b => Ending.returned (.bool b)) (by unfold mayV; first | exact (decide_eq_true (by omega)).symm | exact (decide_eq_false (by omega)).symm | exact decide_eq_decide.2 (by omega)), h.fr⟩
          ·
            first | (have h5 := of_decide_eq_true h5) | (have h5 := of_decide_eq_false h5) | skip
            refine L_skip rfl rfl rfl rfl rfl rfl rfl ?_
            refine L_skip rfl rfl rfl rfl rfl rfl rfl ?_
            refine L_skip rfl rfl rfl rfl rfl rfl rfl ?_
            refine L_skip rfl rfl rfl rfl rfl rfl rfl ?_
            first | refine L_v rfl rfl rfl (V_pickT rfl rfl rfl) ?_ | refine L_v rfl rfl rfl (V_pickF rfl rfl rfl) ?_
            refine L_v rfl rfl rfl (V_assign rfl rfl) ?_
            refine L_nil ?_
            change J _ _ _ _
            refine J_ret ?_
            change Kret _ _ _ Exit.ret _
            refine ret1 rfl rfl (RV_t rfl) ?_
            exact fun w' h => ⟨congrArg (fun b => Ending.returned (.bool b)) (by unfold mayV; first | exact (decide_eq_true (by omega)).symm | exact (decide_eq_false (by omega)).symm | exact decide_eq_decide.2 (by omega)), h.fr⟩
        ·
          first | (have h4 := of_decide_eq_true h4) | (have h4 := of_decide_eq_false h4) | skip
          refine J_seq ?_
          refine J_region ?_
          refine L_v rfl rfl rfl (V_eql rfl rfl rfl (by first | exact decide_eq_true (by omega) | exact decide_eq_false (by omega) | rfl)) ?_
          refine L_v rfl rfl rfl (V_assign rfl rfl) ?_
          refine L_nil ?_
          change J _ _ _ _
          refine J_cond rfl (fun h5 => ?_) (fun h5 => ?_)
          ·
            first | (have h5 := of_decide_eq_true h5) | (have h5 := of_decide_eq_false h5) | skip
            refine J_seq ?_
            refine J_region ?_
            refine L_v rfl rfl rfl (V_fieldAddr rfl rfl Tryd.underlying44 rfl sz9v rfl) ?_
            refine L_v rfl rfl rfl (V_load1 0 rfl rfl rfl Tryd.underlying9 rfl (by first | rfl | exact dg_get (by omega) (by omega))) ?_
            refine L_v rfl rfl rfl (V_eqS rfl rfl rfl (eqE _)) ?_
            refine L_v rfl rfl rfl (V_assign rfl rfl) ?_
            refine L_nil ?_
            change J _ _ _ _
            refine J_ret ?_
            change Kret _ _ _ Exit.ret _
            refine ret1 rfl rfl (RV_t rfl) ?_
            exact fun w' h => ⟨congrArg (fun b => Ending.returned (.bool b)) (by unfold mayV; first | exact (decide_eq_true (by omega)).symm | exact (decide_eq_false (by omega)).symm | exact decide_eq_decide.2 (by omega)), h.fr⟩
          ·
            first | (have h5 := of_decide_eq_true h5) | (have h5 := of_decide_eq_false h5) | skip
            refine J_skip ?_
            change J _ _ _ _
            refine J_seq ?_
            refine J_region ?_
            refine L_v rfl rfl rfl (V_assign rfl rfl) ?_
            refine L_nil ?_
            change J _ _ _ _
            refine J_ret ?_
            change Kret _ _ _ Exit.ret _
            refine ret1 rfl rfl (RV_t rfl) ?_
            exact fun w' h => ⟨congrArg (fun b => Ending.returned (.bool b)) (by unfold mayV; first | exact (decide_eq_true (by omega)).symm | exact (decide_eq_false (by omega)).symm | exact decide_eq_decide.2 (by omega)), h.fr⟩

theorem last_w (a : Option Addr) (n c : Nat) (l : List Ver) (w : World) (hl : l.length = n) (hu : SlC 3 w (.slice a n c) n (vcs l)) (hn : n ≤ 1099511627776) :
    Calls Tryd.prog 24 #[.slice a n c] w fun e w' => e = .returned (.agg (vc (lastV l)).toArray) ∧ Fr [] w w' := by
  refine calls_of (args := [.slice a n c]) ([]) ([]) ([]) Tryd.func24 rfl rfl (okW0 _ _ _ _) ?_
  refine J_seq ?_
  refine J_region ?_
  refine L_alloc rfl rfl rfl rfl z44v (fun b0 => ?_)
  refine L_nil ?_
  change J _ _ _ _
  refine J_seq ?_
  refine J_seq ?_
  refine J_region ?_
  refine L_v rfl rfl rfl (V_move rfl rfl) ?_
  refine L_v rfl rfl rfl (V_len rfl rfl Tryd.underlying22 rfl) ?_
  refine L_v rfl rfl rfl (V_eql rfl rfl rfl (by first | exact decide_eq_true (by omega) | exact decide_eq_false (by omega) | rfl)) ?_
  refine L_nil ?_
  change J _ _ _ _
  refine J_cond rfl (fun h1 => ?_) (fun h1 => ?_)
  ·
    first | (have h1 := of_decide_eq_true h1) | (have h1 := of_decide_eq_false h1) | skip
    refine J_seq ?_
    refine J_region ?_
    refine L_v rfl rfl rfl (V_build (vs := []) rfl rfl bdV0) ?_
    refine L_storeW 0 rfl rfl rfl rfl rfl rfl (szd sz44v (by first | rfl | (simp [dg_length, zd_length, *]; done))) (vc_one _) (by first | rfl | (simp [dg_length, zd_length, *]; done)) ?_
    refine L_nil ?_
    change J _ _ _ _
    refine J_ret ?_
    change Kret _ _ _ Exit.ret _
    refine ret1 rfl rfl (RV_c 0 rfl rfl Tryd.underlying44 rfl (szd sz44v (by first | rfl | (simp [dg_length, zd_length, *]; done)))) ?_
    exact fun w' h => ⟨by unfold lastV; rw [List.getD_eq_getElem?_getD, List.getElem?_eq_none (by omega)]; rfl, h.fr⟩
  ·
    first | (have h1 := of_decide_eq_true h1) | (have h1 := of_decide_eq_false h1) | skip
    refine J_skip ?_
    change J _ _ _ _
    refine J_seq ?_
    refine J_region ?_
    refine L_v rfl rfl rfl (V_move rfl rfl) ?_
    refine L_v rfl rfl rfl (V_move rfl rfl) ?_
    refine L_v rfl rfl rfl (V_len rfl rfl Tryd.underlying22 rfl) ?_
    refine L_v rfl rfl rfl (V_sub rfl rfl rfl (by first | exact Go.IntWalk.i64_in _ (by omega) | rfl)) ?_
    refine L_v rfl rfl rfl (V_indexC rfl rfl rfl Tryd.underlying22 sz44v (fun w hw => SlC.later hw rfl hu) (by omega) (by omega)) ?_
    refine L_v rfl rfl rfl (V_loadCN (vs := vc (l.getD (n - 1) v0)) rfl rfl Tryd.underlying44 rfl (szd sz44v (by first | rfl | (simp [dg_length, zd_length, *]; done))) (fun w hw => SlC.later hw rfl hu) (Nat.zero_lt_succ _) (by rw [show ((n : Int) - 1).toNat = ((n - 1 : Nat) : Int).toNat by omega]; exact vcs_v (by omega))) ?_
    refine L_storeW 0 rfl rfl rfl rfl rfl rfl (szd sz44v (by first | rfl | (simp [dg_length, zd_length, *]; done))) (vc_one _) (by first | rfl | (simp [dg_length, zd_length, *]; done)) ?_
    refine L_nil ?_
    change J _ _ _ _
    refine J_ret ?_
    change Kret _ _ _ Exit.ret _
    refine ret1 rfl rfl (RV_c 0 rfl rfl Tryd.underlying44 rfl (szd sz44v (by first | rfl | (simp [dg_length, zd_length, *]; done)))) ?_
    exact fun w' h => ⟨by unfold lastV; rw [hl], h.fr⟩

end Go.Proofs.YthafhiemecfjiaaDoor
