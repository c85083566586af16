/- What a law of layer 8 comes to. -/
import Derived.Test.YtfgcfjojpakpjaaWLaw
import Derived.Test.YtfgcfjojpakpjaaWSame
set_option linter.unusedVariables false
set_option linter.unusedSimpArgs false
set_option maxRecDepth 100000
namespace Go.Proofs.Ytfgcfjojpakpjaa
open Go.Sx
theorem sz9s : (Try.prog.info? 9).map (·.size) = some 1 := by kernel_rfl
theorem sz39s : (Try.prog.info? 39).map (·.size) = some 38 := by kernel_rfl
theorem sz47s : (Try.prog.info? 47).map (·.size) = some 2 := by kernel_rfl
theorem sz49s : (Try.prog.info? 49).map (·.size) = some 43 := by kernel_rfl
theorem sz69s : (Try.prog.info? 69).map (·.size) = some 5 := by kernel_rfl
theorem sz71s : (Try.prog.info? 71).map (·.size) = some 149 := by kernel_rfl
theorem tx11s : Txt Try.prog 11 := txt_of Try.func11 rfl (by kernel_rfl)
theorem tx18s : Txt Try.prog 18 := txt_of Try.func18 rfl (by kernel_rfl)
theorem tx31s : Txt Try.prog 31 := txt_of Try.func31 rfl (by kernel_rfl)
theorem tx32s : Txt Try.prog 32 := txt_of Try.func32 rfl (by kernel_rfl)
theorem tx33s : Txt Try.prog 33 := txt_of Try.func33 rfl (by kernel_rfl)
theorem tx34s : Txt Try.prog 34 := txt_of Try.func34 rfl (by kernel_rfl)
theorem tx35s : Txt Try.prog 35 := txt_of Try.func35 rfl (by kernel_rfl)
theorem z71s : (Try.prog.info? 71).bind (·.zero) = some (.agg [.int .i64 0, .int .i64 0, .int .i64 0, .int .i64 0, .int .i64 0, .int .i64 0, .int .i64 0, .int .i64 0, .int .i64 0, .string ByteArray.empty, .string ByteArray.empty, .int .i64 0, .int .u8 0, .int .u8 0, .int .u8 0, .int .u8 0, .int .u8 0, .int .u8 0, .int .u8 0, .int .u8 0, .int .u8 0, .int .u8 0, .int .u8 0, .int .u8 0, .int .u8 0, .int .u8 0, .int .u8 0, .int .u8 0, .int .u8 0, .int .u8 0, .int .u8 0, .int .u8 0, .int .u8 0, .int .u8 0, .int .u8 0, .int .u8 0, .int .u8 0, .int .u8 0, .int .u8 0, .int .u8 0, .int .u8 0, .int .u8 0, .int .u8 0, .int .u8 0, .slice none 0 0, .slice none 0 0, .int .i64 0, .int .i64 0, .int .i64 0, .slice none 0 0, .slice none 0 0, .string ByteArray.empty, .int .i64 0, .int .u8 0, .int .u8 0, .int .u8 0, .int .u8 0, .int .u8 0, .int .u8 0, .int .u8 0, .int .u8 0, .int .u8 0, .int .u8 0, .int .u8 0, .int .u8 0, .int .u8 0, .int .u8 0, .int .u8 0, .int .u8 0, .int .u8 0, .int .u8 0, .int .u8 0, .int .u8 0, .int .u8 0, .int .u8 0, .int .u8 0, .int .u8 0, .int .u8 0, .int .u8 0, .int .u8 0, .int .u8 0, .int .u8 0, .int .u8 0, .int .u8 0, .int .u8 0, .int .u8 0, .int .u8 0, .int .u8 0, .int .u8 0, .int .u8 0, .int .u8 0, .int .u8 0, .int .u8 0, .int .u8 0, .int .u8 0, .int .u8 0, .int .u8 0, .int .u8 0, .int .u8 0, .int .u8 0, .int .u8 0, .int .u8 0, .int .u8 0, .int .u8 0, .int .u8 0, .int .u8 0, .int .u8 0, .int .u8 0, .int .u8 0, .int .u8 0, .int .u8 0, .int .u8 0, .int .u8 0, .int .u8 0, .int .u8 0, .int .u8 0, .int .u8 0, .int .u8 0, .int .u8 0, .int .u8 0, .int .u8 0, .int .u8 0, .int .u8 0, .int .u8 0, .int .u8 0, .int .u8 0, .int .u8 0, .int .u8 0, .int .u8 0, .int .u8 0, .int .u8 0, .int .u8 0, .int .u8 0, .int .u8 0, .int .u8 0, .int .u8 0, .int .u8 0, .int .u8 0, .int .u8 0, .int .u8 0, .int .u8 0, .int .u8 0, .int .u8 0, .int .u8 0, .int .u8 0, .int .u8 0, .int .u8 0, .int .u8 0, .int .u8 0].toArray) := by kernel_rfl

set_option maxHeartbeats 4000000 in
theorem WireRecords0_w (va vb vc vd : Option Addr) (ca cb cc cd : Nat) (x : Rec) (w : World) (hs : FW w (clF (.slice va x.2.2.2.1.2.2.2.2.1.length ca) (.slice vb x.2.2.2.1.2.2.2.2.2.length cb) x.2.2.2.1.2.2.2.2 ++ clF (.slice vc x.2.2.2.2.2.1.2.2.1.1.length cc) (.slice vd x.2.2.2.2.2.1.2.2.1.2.length cd) x.2.2.2.2.2.1.2.2.1)) (hb : TB recC x) :
    Calls Try.prog 7 #[.agg (recV x (.slice va x.2.2.2.1.2.2.2.2.1.length ca) (.slice vb x.2.2.2.1.2.2.2.2.2.length cb) (.slice vc x.2.2.2.2.2.1.2.2.1.1.length cc) (.slice vd x.2.2.2.2.2.1.2.2.1.2.length cd)).toArray] w fun e w' => e = .returned (.bool true) ∧ Fr [] w w' := by
  have hT := rec_len x
  refine calls_of (args := [.agg (recV x (.slice va x.2.2.2.1.2.2.2.2.1.length ca) (.slice vb x.2.2.2.1.2.2.2.2.2.length cb) (.slice vc x.2.2.2.2.2.1.2.2.1.1.length cc) (.slice vd x.2.2.2.2.2.1.2.2.1.2.length cd)).toArray]) ([]) ([]) (clF (.slice va x.2.2.2.1.2.2.2.2.1.length ca) (.slice vb x.2.2.2.1.2.2.2.2.2.length cb) x.2.2.2.1.2.2.2.2 ++ clF (.slice vc x.2.2.2.2.2.1.2.2.1.1.length cc) (.slice vd x.2.2.2.2.2.1.2.2.1.2.length cd) x.2.2.2.2.2.1.2.2.1) Try.func7 rfl rfl (okFW hs) ?_
  by_cases h0 : (x.2.2.2.1.2.2.2.1.2.2.2.1.size : Int) > 262144
  ·
    refine J_seq ?_
    refine J_region ?_
    refine L_box rfl rfl rfl rfl rfl (fun b0 => ?_)
    refine L_v rfl rfl rfl (V_assign rfl rfl) ?_
    refine L_nil ?_
    change J _ _ _ _
    refine J_seq ?_
    refine J_seq ?_
    refine J_region ?_
    refine L_v rfl rfl rfl (V_fieldAddr rfl rfl Try.underlying71 rfl sz49s rfl) ?_
    refine L_v rfl rfl rfl (V_fieldAddr rfl rfl Try.underlying49 rfl sz39s rfl) ?_
    refine L_v rfl rfl rfl (V_fieldAddr rfl rfl Try.underlying39 rfl sz9s rfl) ?_
    refine L_v rfl rfl rfl (V_load1 0 rfl rfl rfl Try.underlying9 rfl (by first | rfl | exact dg_get (by omega) (by omega))) ?_
    refine L_v rfl rfl rfl (V_lenS rfl rfl Try.underlying9 rfl) ?_
    refine L_v rfl rfl rfl (V_gtr rfl rfl rfl (by first | exact decide_eq_true (by omega) | exact decide_eq_false (by omega) | rfl)) ?_
    refine L_v rfl rfl rfl (V_move rfl rfl) ?_
    refine L_skip rfl rfl rfl rfl rfl rfl rfl ?_
    refine L_skip rfl rfl rfl rfl rfl rfl rfl ?_
    refine L_skip rfl rfl rfl rfl rfl rfl rfl ?_
    refine L_skip rfl rfl rfl rfl rfl rfl rfl ?_
    refine L_skip rfl rfl rfl rfl rfl rfl rfl ?_
    refine L_skip rfl rfl rfl rfl rfl rfl rfl ?_
    first | refine L_v rfl rfl rfl (V_pickT rfl rfl rfl) ?_ | refine L_v rfl rfl rfl (V_pickF rfl rfl rfl) ?_
    refine L_v rfl rfl rfl (V_move rfl rfl) ?_
    refine L_skip rfl rfl rfl rfl rfl rfl rfl ?_
    refine L_skip rfl rfl rfl rfl rfl rfl rfl ?_
    refine L_skip rfl rfl rfl rfl rfl rfl rfl ?_
    refine L_skip rfl rfl rfl rfl rfl rfl rfl ?_
    refine L_skip rfl rfl rfl rfl rfl rfl rfl ?_
    first | refine L_v rfl rfl rfl (V_pickT rfl rfl rfl) ?_ | refine L_v rfl rfl rfl (V_pickF rfl rfl rfl) ?_
    refine L_v rfl rfl rfl (V_move rfl rfl) ?_
    refine L_skip rfl rfl rfl rfl rfl rfl rfl ?_
    refine L_skip rfl rfl rfl rfl rfl rfl rfl ?_
    refine L_skip rfl rfl rfl rfl rfl rfl rfl ?_
    refine L_skip rfl rfl rfl rfl rfl rfl rfl ?_
    first | refine L_v rfl rfl rfl (V_pickT rfl rfl rfl) ?_ | refine L_v rfl rfl rfl (V_pickF rfl rfl rfl) ?_
    refine L_v rfl rfl rfl (V_move rfl rfl) ?_
    refine L_skip rfl rfl rfl rfl rfl rfl rfl ?_
    refine L_skip rfl rfl rfl rfl rfl rfl rfl ?_
    refine L_skip rfl rfl rfl rfl rfl rfl rfl ?_
    refine L_skip rfl rfl rfl rfl rfl rfl rfl ?_
    first | refine L_v rfl rfl rfl (V_pickT rfl rfl rfl) ?_ | refine L_v rfl rfl rfl (V_pickF rfl rfl rfl) ?_
    refine L_nil ?_
    change J _ _ _ _
    refine J_true rfl ?_
    refine J_seq ?_
    refine J_region ?_
    refine L_v rfl rfl rfl (V_assign rfl rfl) ?_
    refine L_nil ?_
    change J _ _ _ _
    refine J_ret ?_
    change Kret _ _ _ Exit.ret _
    refine ret1 rfl rfl (RV_t rfl) ?_
    exact fun w' h => ⟨rfl, h.fr⟩
  ·
    by_cases h00 : (x.2.2.2.1.2.2.2.1.2.2.2.2.1.size : Int) > 262144
    ·
      refine J_seq ?_
      refine J_region ?_
      refine L_box rfl rfl rfl rfl rfl (fun b0 => ?_)
      refine L_v rfl rfl rfl (V_assign rfl rfl) ?_
      refine L_nil ?_
      change J _ _ _ _
      refine J_seq ?_
      refine J_seq ?_
      refine J_region ?_
      refine L_v rfl rfl rfl (V_fieldAddr rfl rfl Try.underlying71 rfl sz49s rfl) ?_
      refine L_v rfl rfl rfl (V_fieldAddr rfl rfl Try.underlying49 rfl sz39s rfl) ?_
      refine L_v rfl rfl rfl (V_fieldAddr rfl rfl Try.underlying39 rfl sz9s rfl) ?_
      refine L_v rfl rfl rfl (V_load1 0 rfl rfl rfl Try.underlying9 rfl (by first | rfl | exact dg_get (by omega) (by omega))) ?_
      refine L_v rfl rfl rfl (V_lenS rfl rfl Try.underlying9 rfl) ?_
      refine L_v rfl rfl rfl (V_gtr rfl rfl rfl (by first | exact decide_eq_true (by omega) | exact decide_eq_false (by omega) | rfl)) ?_
      refine L_v rfl rfl rfl (V_move rfl rfl) ?_
      refine L_wv rfl rfl rfl rfl rfl rfl (V_fieldAddr rfl rfl Try.underlying71 rfl sz49s rfl) ?_
      refine L_wv rfl rfl rfl rfl rfl rfl (V_fieldAddr rfl rfl Try.underlying49 rfl sz39s rfl) ?_
      refine L_wv rfl rfl rfl rfl rfl rfl (V_fieldAddr rfl rfl Try.underlying39 rfl sz9s rfl) ?_
      refine L_wv rfl rfl rfl rfl rfl rfl (V_load1 0 rfl rfl rfl Try.underlying9 rfl (by first | rfl | exact dg_get (by omega) (by omega))) ?_
      refine L_wv rfl rfl rfl rfl rfl rfl (V_lenS rfl rfl Try.underlying9 rfl) ?_
      refine L_wv rfl rfl rfl rfl rfl rfl (V_gtr rfl rfl rfl (by first | exact decide_eq_true (by omega) | exact decide_eq_false (by omega) | rfl)) ?_
      first | refine L_v rfl rfl rfl (V_pickT rfl rfl rfl) ?_ | refine L_v rfl rfl rfl (V_pickF rfl rfl rfl) ?_
      refine L_v rfl rfl rfl (V_move rfl rfl) ?_
      refine L_skip rfl rfl rfl rfl rfl rfl rfl ?_
      refine L_skip rfl rfl rfl rfl rfl rfl rfl ?_
      refine L_skip rfl rfl rfl rfl rfl rfl rfl ?_
      refine L_skip rfl rfl rfl rfl rfl rfl rfl ?_
      refine L_skip rfl rfl rfl rfl rfl rfl rfl ?_
      first | refine L_v rfl rfl rfl (V_pickT rfl rfl rfl) ?_ | refine L_v rfl rfl rfl (V_pickF rfl rfl rfl) ?_
      refine L_v rfl rfl rfl (V_move rfl rfl) ?_
      refine L_skip rfl rfl rfl rfl rfl rfl rfl ?_
      refine L_skip rfl rfl rfl rfl rfl rfl rfl ?_
      refine L_skip rfl rfl rfl rfl rfl rfl rfl ?_
      refine L_skip rfl rfl rfl rfl rfl rfl rfl ?_
      first | refine L_v rfl rfl rfl (V_pickT rfl rfl rfl) ?_ | refine L_v rfl rfl rfl (V_pickF rfl rfl rfl) ?_
      refine L_v rfl rfl rfl (V_move rfl rfl) ?_
      refine L_skip rfl rfl rfl rfl rfl rfl rfl ?_
      refine L_skip rfl rfl rfl rfl rfl rfl rfl ?_
      refine L_skip rfl rfl rfl rfl rfl rfl rfl ?_
      refine L_skip rfl rfl rfl rfl rfl rfl rfl ?_
      first | refine L_v rfl rfl rfl (V_pickT rfl rfl rfl) ?_ | refine L_v rfl rfl rfl (V_pickF rfl rfl rfl) ?_
      refine L_nil ?_
      change J _ _ _ _
      refine J_true rfl ?_
      refine J_seq ?_
      refine J_region ?_
      refine L_v rfl rfl rfl (V_assign rfl rfl) ?_
      refine L_nil ?_
      change J _ _ _ _
      refine J_ret ?_
      change Kret _ _ _ Exit.ret _
      refine ret1 rfl rfl (RV_t rfl) ?_
      exact fun w' h => ⟨rfl, h.fr⟩
    ·
      by_cases h000 : (x.2.2.2.2.2.1.2.2.2.size : Int) > 262144
      ·
        refine J_seq ?_
        refine J_region ?_
        refine L_box rfl rfl rfl rfl rfl (fun b0 => ?_)
        refine L_v rfl rfl rfl (V_assign rfl rfl) ?_
        refine L_nil ?_
        change J _ _ _ _
        refine J_seq ?_
        refine J_seq ?_
        refine J_region ?_
        refine L_v rfl rfl rfl (V_fieldAddr rfl rfl Try.underlying71 rfl sz49s rfl) ?_
        refine L_v rfl rfl rfl (V_fieldAddr rfl rfl Try.underlying49 rfl sz39s rfl) ?_
        refine L_v rfl rfl rfl (V_fieldAddr rfl rfl Try.underlying39 rfl sz9s rfl) ?_
        refine L_v rfl rfl rfl (V_load1 0 rfl rfl rfl Try.underlying9 rfl (by first | rfl | exact dg_get (by omega) (by omega))) ?_
        refine L_v rfl rfl rfl (V_lenS rfl rfl Try.underlying9 rfl) ?_
        refine L_v rfl rfl rfl (V_gtr rfl rfl rfl (by first | exact decide_eq_true (by omega) | exact decide_eq_false (by omega) | rfl)) ?_
        refine L_v rfl rfl rfl (V_move rfl rfl) ?_
        refine L_wv rfl rfl rfl rfl rfl rfl (V_fieldAddr rfl rfl Try.underlying71 rfl sz49s rfl) ?_
        refine L_wv rfl rfl rfl rfl rfl rfl (V_fieldAddr rfl rfl Try.underlying49 rfl sz39s rfl) ?_
        refine L_wv rfl rfl rfl rfl rfl rfl (V_fieldAddr rfl rfl Try.underlying39 rfl sz9s rfl) ?_
        refine L_wv rfl rfl rfl rfl rfl rfl (V_load1 0 rfl rfl rfl Try.underlying9 rfl (by first | rfl | exact dg_get (by omega) (by omega))) ?_
        refine L_wv rfl rfl rfl rfl rfl rfl (V_lenS rfl rfl Try.underlying9 rfl) ?_
        refine L_wv rfl rfl rfl rfl rfl rfl (V_gtr rfl rfl rfl (by first | exact decide_eq_true (by omega) | exact decide_eq_false (by omega) | rfl)) ?_
        first | refine L_v rfl rfl rfl (V_pickT rfl rfl rfl) ?_ | refine L_v rfl rfl rfl (V_pickF rfl rfl rfl) ?_
        refine L_v rfl rfl rfl (V_move rfl rfl) ?_
        refine L_wv rfl rfl rfl rfl rfl rfl (V_fieldAddr rfl rfl Try.underlying71 rfl sz69s rfl) ?_
        refine L_wv rfl rfl rfl rfl rfl rfl (V_fieldAddr rfl rfl Try.underlying69 rfl sz9s rfl) ?_
        refine L_wv rfl rfl rfl rfl rfl rfl (V_load1 0 rfl rfl rfl Try.underlying9 rfl (by first | rfl | exact dg_get (by omega) (by omega))) ?_
        refine L_wv rfl rfl rfl rfl rfl rfl (V_lenS rfl rfl Try.underlying9 rfl) ?_
        refine L_wv rfl rfl rfl rfl rfl rfl (V_gtr rfl rfl rfl (by first | exact decide_eq_true (by omega) | exact decide_eq_false (by omega) | rfl)) ?_
        first | refine L_v rfl rfl rfl (V_pickT rfl rfl rfl) ?_ | refine L_v rfl rfl rfl (V_pickF rfl rfl rfl) ?_
        refine L_v rfl rfl rfl (V_move rfl rfl) ?_
        refine L_skip rfl rfl rfl rfl rfl rfl rfl ?_
        refine L_skip rfl rfl rfl rfl rfl rfl rfl ?_
        refine L_skip rfl rfl rfl rfl rfl rfl rfl ?_
        refine L_skip rfl rfl rfl rfl rfl rfl rfl ?_
        first | refine L_v rfl rfl rfl (V_pickT rfl rfl rfl) ?_ | refine L_v rfl rfl rfl (V_pickF rfl rfl rfl) ?_
        refine L_v rfl rfl rfl (V_move rfl rfl) ?_
        refine L_skip rfl rfl rfl rfl rfl rfl rfl ?_
        refine L_skip rfl rfl rfl rfl rfl rfl rfl ?_
        refine L_skip rfl rfl rfl rfl rfl rfl rfl ?_
        refine L_skip rfl rfl rfl rfl rfl rfl rfl ?_
        first | refine L_v rfl rfl rfl (V_pickT rfl rfl rfl) ?_ | refine L_v rfl rfl rfl (V_pickF rfl rfl rfl) ?_
        refine L_nil ?_
        change J _ _ _ _
        refine J_true rfl ?_
        refine J_seq ?_
        refine J_region ?_
        refine L_v rfl rfl rfl (V_assign rfl rfl) ?_
        refine L_nil ?_
        change J _ _ _ _
        refine J_ret ?_
        change Kret _ _ _ Exit.ret _
        refine ret1 rfl rfl (RV_t rfl) ?_
        exact fun w' h => ⟨rfl, h.fr⟩
      ·
        by_cases hbg : 5000 < x.2.2.2.1.2.2.2.2.1.length ∨ 5000 < x.2.2.2.1.2.2.2.2.2.length
        ·
          refine J_seq ?_
          refine J_region ?_
          refine L_box rfl rfl rfl rfl rfl (fun b0 => ?_)
          refine L_v rfl rfl rfl (V_assign rfl rfl) ?_
          refine L_nil ?_
          change J _ _ _ _
          refine J_seq ?_
          refine J_seq ?_
          refine J_region ?_
          refine L_v rfl rfl rfl (V_fieldAddr rfl rfl Try.underlying71 rfl sz49s rfl) ?_
          refine L_v rfl rfl rfl (V_fieldAddr rfl rfl Try.underlying49 rfl sz39s rfl) ?_
          refine L_v rfl rfl rfl (V_fieldAddr rfl rfl Try.underlying39 rfl sz9s rfl) ?_
          refine L_v rfl rfl rfl (V_load1 0 rfl rfl rfl Try.underlying9 rfl (by first | rfl | exact dg_get (by omega) (by omega))) ?_
          refine L_v rfl rfl rfl (V_lenS rfl rfl Try.underlying9 rfl) ?_
          refine L_v rfl rfl rfl (V_gtr rfl rfl rfl (by first | exact decide_eq_true (by omega) | exact decide_eq_false (by omega) | rfl)) ?_
          refine L_v rfl rfl rfl (V_move rfl rfl) ?_
          refine L_wv rfl rfl rfl rfl rfl rfl (V_fieldAddr rfl rfl Try.underlying71 rfl sz49s rfl) ?_
          refine L_wv rfl rfl rfl rfl rfl rfl (V_fieldAddr rfl rfl Try.underlying49 rfl sz39s rfl) ?_
          refine L_wv rfl rfl rfl rfl rfl rfl (V_fieldAddr rfl rfl Try.underlying39 rfl sz9s rfl) ?_
          refine L_wv rfl rfl rfl rfl rfl rfl (V_load1 0 rfl rfl rfl Try.underlying9 rfl (by first | rfl | exact dg_get (by omega) (by omega))) ?_
          refine L_wv rfl rfl rfl rfl rfl rfl (V_lenS rfl rfl Try.underlying9 rfl) ?_
          refine L_wv rfl rfl rfl rfl rfl rfl (V_gtr rfl rfl rfl (by first | exact decide_eq_true (by omega) | exact decide_eq_false (by omega) | rfl)) ?_
          first | refine L_v rfl rfl rfl (V_pickT rfl rfl rfl) ?_ | refine L_v rfl rfl rfl (V_pickF rfl rfl rfl) ?_
          refine L_v rfl rfl rfl (V_move rfl rfl) ?_
          refine L_wv rfl rfl rfl rfl rfl rfl (V_fieldAddr rfl rfl Try.underlying71 rfl sz69s rfl) ?_
          refine L_wv rfl rfl rfl rfl rfl rfl (V_fieldAddr rfl rfl Try.underlying69 rfl sz9s rfl) ?_
          refine L_wv rfl rfl rfl rfl rfl rfl (V_load1 0 rfl rfl rfl Try.underlying9 rfl (by first | rfl | exact dg_get (by omega) (by omega))) ?_
          refine L_wv rfl rfl rfl rfl rfl rfl (V_lenS rfl rfl Try.underlying9 rfl) ?_
          refine L_wv rfl rfl rfl rfl rfl rfl (V_gtr rfl rfl rfl (by first | exact decide_eq_true (by omega) | exact decide_eq_false (by omega) | rfl)) ?_
          first | refine L_v rfl rfl rfl (V_pickT rfl rfl rfl) ?_ | refine L_v rfl rfl rfl (V_pickF rfl rfl rfl) ?_
          refine L_v rfl rfl rfl (V_move rfl rfl) ?_
          refine L_wv rfl rfl rfl rfl rfl rfl (V_fieldAddr rfl rfl Try.underlying71 rfl sz49s rfl) ?_
          refine L_wv rfl rfl rfl rfl rfl rfl (V_fieldAddr rfl rfl Try.underlying49 rfl sz47s rfl) ?_
          refine L_wv rfl rfl rfl rfl rfl rfl (V_loadT 0 (vs := clV (.slice va x.2.2.2.1.2.2.2.2.1.length ca) (.slice vb x.2.2.2.1.2.2.2.2.2.length cb)) rfl rfl rfl Try.underlying47 rfl sz47s rfl rfl) ?_
          refine L_wcallV rfl rfl rfl rfl rfl rfl rfl rfl rfl tx18s (fun w1 hw => big_t va vb _ _ ca cb w1 hbg) ?_
          first | refine L_v rfl rfl rfl (V_pickT rfl rfl rfl) ?_ | refine L_v rfl rfl rfl (V_pickF rfl rfl rfl) ?_
          refine L_v rfl rfl rfl (V_move rfl rfl) ?_
          refine L_skip rfl rfl rfl rfl rfl rfl rfl ?_
          refine L_skip rfl rfl rfl rfl rfl rfl rfl ?_
          refine L_skip rfl rfl rfl rfl rfl rfl rfl ?_
          refine L_skip rfl rfl rfl rfl rfl rfl rfl ?_
          first | refine L_v rfl rfl rfl (V_pickT rfl rfl rfl) ?_ | refine L_v rfl rfl rfl (V_pickF rfl rfl rfl) ?_
          refine L_nil ?_
          change J _ _ _ _
          refine J_true rfl ?_
          refine J_seq ?_
          refine J_region ?_
          refine L_v rfl rfl rfl (V_assign rfl rfl) ?_
          refine L_nil ?_
          change J _ _ _ _
          refine J_ret ?_
          change Kret _ _ _ Exit.ret _
          refine ret1 rfl rfl (RV_t rfl) ?_
          exact fun w' h => ⟨rfl, h.fr⟩
        ·
          by_cases hbg2 : 5000 < x.2.2.2.2.2.1.2.2.1.1.length ∨ 5000 < x.2.2.2.2.2.1.2.2.1.2.length
          ·
            refine J_seq ?_
            refine J_region ?_
            refine L_box rfl rfl rfl rfl rfl (fun b0 => ?_)
            refine L_v rfl rfl rfl (V_assign rfl rfl) ?_
            refine L_nil ?_
            change J _ _ _ _
            refine J_seq ?_
            refine J_seq ?_
            refine J_region ?_
            refine L_v rfl rfl rfl (V_fieldAddr rfl rfl Try.underlying71 rfl sz49s rfl) ?_
            refine L_v rfl rfl rfl (V_fieldAddr rfl rfl Try.underlying49 rfl sz39s rfl) ?_
            refine L_v rfl rfl rfl (V_fieldAddr rfl rfl Try.underlying39 rfl sz9s rfl) ?_
            refine L_v rfl rfl rfl (V_load1 0 rfl rfl rfl Try.underlying9 rfl (by first | rfl | exact dg_get (by omega) (by omega))) ?_
            refine L_v rfl rfl rfl (V_lenS rfl rfl Try.underlying9 rfl) ?_
            refine L_v rfl rfl rfl (V_gtr rfl rfl rfl (by first | exact decide_eq_true (by omega) | exact decide_eq_false (by omega) | rfl)) ?_
            refine L_v rfl rfl rfl (V_move rfl rfl) ?_
            refine L_wv rfl rfl rfl rfl rfl rfl (V_fieldAddr rfl rfl Try.underlying71 rfl sz49s rfl) ?_
            refine L_wv rfl rfl rfl rfl rfl rfl (V_fieldAddr rfl rfl Try.underlying49 rfl sz39s rfl) ?_
            refine L_wv rfl rfl rfl rfl rfl rfl (V_fieldAddr rfl rfl Try.underlying39 rfl sz9s rfl) ?_
            refine L_wv rfl rfl rfl rfl rfl rfl (V_load1 0 rfl rfl rfl Try.underlying9 rfl (by first | rfl | exact dg_get (by omega) (by omega))) ?_
            refine L_wv rfl rfl rfl rfl rfl rfl (V_lenS rfl rfl Try.underlying9 rfl) ?_
            refine L_wv rfl rfl rfl rfl rfl rfl (V_gtr rfl rfl rfl (by first | exact decide_eq_true (by omega) | exact decide_eq_false (by omega) | rfl)) ?_
            first | refine L_v rfl rfl rfl (V_pickT rfl rfl rfl) ?_ | refine L_v rfl rfl rfl (V_pickF rfl rfl rfl) ?_
            refine L_v rfl rfl rfl (V_move rfl rfl) ?_
            refine L_wv rfl rfl rfl rfl rfl rfl (V_fieldAddr rfl rfl Try.underlying71 rfl sz69s rfl) ?_
            refine L_wv rfl rfl rfl rfl rfl rfl (V_fieldAddr rfl rfl Try.underlying69 rfl sz9s rfl) ?_
            refine L_wv rfl rfl rfl rfl rfl rfl (V_load1 0 rfl rfl rfl Try.underlying9 rfl (by first | rfl | exact dg_get (by omega) (by omega))) ?_
            refine L_wv rfl rfl rfl rfl rfl rfl (V_lenS rfl rfl Try.underlying9 rfl) ?_
            refine L_wv rfl rfl rfl rfl rfl rfl (V_gtr rfl rfl rfl (by first | exact decide_eq_true (by omega) | exact decide_eq_false (by omega) | rfl)) ?_
            first | refine L_v rfl rfl rfl (V_pickT rfl rfl rfl) ?_ | refine L_v rfl rfl rfl (V_pickF rfl rfl rfl) ?_
            refine L_v rfl rfl rfl (V_move rfl rfl) ?_
            refine L_wv rfl rfl rfl rfl rfl rfl (V_fieldAddr rfl rfl Try.underlying71 rfl sz49s rfl) ?_
            refine L_wv rfl rfl rfl rfl rfl rfl (V_fieldAddr rfl rfl Try.underlying49 rfl sz47s rfl) ?_
            refine L_wv rfl rfl rfl rfl rfl rfl (V_loadT 0 (vs := clV (.slice va x.2.2.2.1.2.2.2.2.1.length ca) (.slice vb x.2.2.2.1.2.2.2.2.2.length cb)) rfl rfl rfl Try.underlying47 rfl sz47s rfl rfl) ?_
            refine L_wcallV rfl rfl rfl rfl rfl rfl rfl rfl rfl tx18s (fun w1 hw => big_f va vb _ _ ca cb w1 (by omega)) ?_
            first | refine L_v rfl rfl rfl (V_pickT rfl rfl rfl) ?_ | refine L_v rfl rfl rfl (V_pickF rfl rfl rfl) ?_
            refine L_v rfl rfl rfl (V_move rfl rfl) ?_
            refine L_wv rfl rfl rfl rfl rfl rfl (V_fieldAddr rfl rfl Try.underlying71 rfl sz69s rfl) ?_
            refine L_wv rfl rfl rfl rfl rfl rfl (V_fieldAddr rfl rfl Try.underlying69 rfl sz47s rfl) ?_
            refine L_wv rfl rfl rfl rfl rfl rfl (V_loadT 0 (vs := clV (.slice vc x.2.2.2.2.2.1.2.2.1.1.length cc) (.slice vd x.2.2.2.2.2.1.2.2.1.2.length cd)) rfl rfl rfl Try.underlying47 rfl sz47s rfl rfl) ?_
            refine L_wcallV rfl rfl rfl rfl rfl rfl rfl rfl rfl tx18s (fun w1 hw => big_t vc vd _ _ cc cd w1 hbg2) ?_
            first | refine L_v rfl rfl rfl (V_pickT rfl rfl rfl) ?_ | refine L_v rfl rfl rfl (V_pickF rfl rfl rfl) ?_
            refine L_nil ?_
            change J _ _ _ _
            refine J_true rfl ?_
            refine J_seq ?_
            refine J_region ?_
            refine L_v rfl rfl rfl (V_assign rfl rfl) ?_
            refine L_nil ?_
            change J _ _ _ _
            refine J_ret ?_
            change Kret _ _ _ Exit.ret _
            refine ret1 rfl rfl (RV_t rfl) ?_
            exact fun w' h => ⟨rfl, h.fr⟩
          ·
            refine J_seq ?_
            refine J_region ?_
            refine L_box rfl rfl rfl rfl rfl (fun b0 => ?_)
            refine L_v rfl rfl rfl (V_assign rfl rfl) ?_
            refine L_nil ?_
            change J _ _ _ _
            refine J_seq ?_
            refine J_seq ?_
            refine J_region ?_
            refine L_v rfl rfl rfl (V_fieldAddr rfl rfl Try.underlying71 rfl sz49s rfl) ?_
            refine L_v rfl rfl rfl (V_fieldAddr rfl rfl Try.underlying49 rfl sz39s rfl) ?_
            refine L_v rfl rfl rfl (V_fieldAddr rfl rfl Try.underlying39 rfl sz9s rfl) ?_
            refine L_v rfl rfl rfl (V_load1 0 rfl rfl rfl Try.underlying9 rfl (by first | rfl | exact dg_get (by omega) (by omega))) ?_
            refine L_v rfl rfl rfl (V_lenS rfl rfl Try.underlying9 rfl) ?_
            refine L_v rfl rfl rfl (V_gtr rfl rfl rfl (by first | exact decide_eq_true (by omega) | exact decide_eq_false (by omega) | rfl)) ?_
            refine L_v rfl rfl rfl (V_move rfl rfl) ?_
            refine L_wv rfl rfl rfl rfl rfl rfl (V_fieldAddr rfl rfl Try.underlying71 rfl sz49s rfl) ?_
            refine L_wv rfl rfl rfl rfl rfl rfl (V_fieldAddr rfl rfl Try.underlying49 rfl sz39s rfl) ?_
            refine L_wv rfl rfl rfl rfl rfl rfl (V_fieldAddr rfl rfl Try.underlying39 rfl sz9s rfl) ?_
            refine L_wv rfl rfl rfl rfl rfl rfl (V_load1 0 rfl rfl rfl Try.underlying9 rfl (by first | rfl | exact dg_get (by omega) (by omega))) ?_
            refine L_wv rfl rfl rfl rfl rfl rfl (V_lenS rfl rfl Try.underlying9 rfl) ?_
            refine L_wv rfl rfl rfl rfl rfl rfl (V_gtr rfl rfl rfl (by first | exact decide_eq_true (by omega) | exact decide_eq_false (by omega) | rfl)) ?_
            first | refine L_v rfl rfl rfl (V_pickT rfl rfl rfl) ?_ | refine L_v rfl rfl rfl (V_pickF rfl rfl rfl) ?_
            refine L_v rfl rfl rfl (V_move rfl rfl) ?_
            refine L_wv rfl rfl rfl rfl rfl rfl (V_fieldAddr rfl rfl Try.underlying71 rfl sz69s rfl) ?_
            refine L_wv rfl rfl rfl rfl rfl rfl (V_fieldAddr rfl rfl Try.underlying69 rfl sz9s rfl) ?_
            refine L_wv rfl rfl rfl rfl rfl rfl (V_load1 0 rfl rfl rfl Try.underlying9 rfl (by first | rfl | exact dg_get (by omega) (by omega))) ?_
            refine L_wv rfl rfl rfl rfl rfl rfl (V_lenS rfl rfl Try.underlying9 rfl) ?_
            refine L_wv rfl rfl rfl rfl rfl rfl (V_gtr rfl rfl rfl (by first | exact decide_eq_true (by omega) | exact decide_eq_false (by omega) | rfl)) ?_
            first | refine L_v rfl rfl rfl (V_pickT rfl rfl rfl) ?_ | refine L_v rfl rfl rfl (V_pickF rfl rfl rfl) ?_
            refine L_v rfl rfl rfl (V_move rfl rfl) ?_
            refine L_wv rfl rfl rfl rfl rfl rfl (V_fieldAddr rfl rfl Try.underlying71 rfl sz49s rfl) ?_
            refine L_wv rfl rfl rfl rfl rfl rfl (V_fieldAddr rfl rfl Try.underlying49 rfl sz47s rfl) ?_
            refine L_wv rfl rfl rfl rfl rfl rfl (V_loadT 0 (vs := clV (.slice va x.2.2.2.1.2.2.2.2.1.length ca) (.slice vb x.2.2.2.1.2.2.2.2.2.length cb)) rfl rfl rfl Try.underlying47 rfl sz47s rfl rfl) ?_
            refine L_wcallV rfl rfl rfl rfl rfl rfl rfl rfl rfl tx18s (fun w1 hw => big_f va vb _ _ ca cb w1 (by omega)) ?_
            first | refine L_v rfl rfl rfl (V_pickT rfl rfl rfl) ?_ | refine L_v rfl rfl rfl (V_pickF rfl rfl rfl) ?_
            refine L_v rfl rfl rfl (V_move rfl rfl) ?_
            refine L_wv rfl rfl rfl rfl rfl rfl (V_fieldAddr rfl rfl Try.underlying71 rfl sz69s rfl) ?_
            refine L_wv rfl rfl rfl rfl rfl rfl (V_fieldAddr rfl rfl Try.underlying69 rfl sz47s rfl) ?_
            refine L_wv rfl rfl rfl rfl rfl rfl (V_loadT 0 (vs := clV (.slice vc x.2.2.2.2.2.1.2.2.1.1.length cc) (.slice vd x.2.2.2.2.2.1.2.2.1.2.length cd)) rfl rfl rfl Try.underlying47 rfl sz47s rfl rfl) ?_
            refine L_wcallV rfl rfl rfl rfl rfl rfl rfl rfl rfl tx18s (fun w1 hw => big_f vc vd _ _ cc cd w1 (by omega)) ?_
            first | refine L_v rfl rfl rfl (V_pickT rfl rfl rfl) ?_ | refine L_v rfl rfl rfl (V_pickF rfl rfl rfl) ?_
            refine L_nil ?_
            change J _ _ _ _
            refine J_false rfl ?_
            rcases hE : encTs (recC.tk x) with k | M
            ·
              have hk0 : k ≠ 0 := by rcases encTs_err hE with h | h <;> omega
              refine J_skip ?_
              change J _ _ _ _
              refine J_seq ?_
              refine J_region ?_
              refine L_v rfl rfl rfl (V_loadW 0 rfl rfl rfl Try.underlying71 rfl (szd sz71s (by kernel_rfl))) ?_
              refine L_call rfl rfl rfl rfl tx31s (fun w1 hw => (putrecord_w (.slice va x.2.2.2.1.2.2.2.2.1.length ca) (.slice vb x.2.2.2.1.2.2.2.2.2.length cb) (.slice vc x.2.2.2.2.2.1.2.2.1.1.length cc) (.slice vd x.2.2.2.2.2.1.2.2.1.2.length cd) x w1 (OkW.fw hw (fun f hf => hf)) (by omega)).mono ?_)
              rw [hE]
              rintro e w' ⟨hfr, rfl⟩
              refine ⟨_, _, _, rfl, hw.fr0 hfr, rfl, ?_⟩
              refine L_v rfl rfl rfl (V_move rfl rfl) ?_
              refine L_v rfl rfl rfl (V_extract rfl rfl rfl) ?_
              refine L_v rfl rfl rfl (V_extract rfl rfl rfl) ?_
              refine L_v rfl rfl rfl (V_assign rfl rfl) ?_
              refine L_v rfl rfl rfl (V_assign rfl rfl) ?_
              refine L_nil ?_
              change J _ _ _ _
              refine J_seq ?_
              refine J_region ?_
              refine L_v rfl rfl rfl (V_loadW 0 rfl rfl rfl Try.underlying71 rfl (szd sz71s (by kernel_rfl))) ?_
              refine L_call rfl rfl rfl rfl tx32s (fun w1 hw => (rputrecord_w (.slice va x.2.2.2.1.2.2.2.2.1.length ca) (.slice vb x.2.2.2.1.2.2.2.2.2.length cb) (.slice vc x.2.2.2.2.2.1.2.2.1.1.length cc) (.slice vd x.2.2.2.2.2.1.2.2.1.2.length cd) x w1 (OkW.fw hw (fun f hf => hf)) (by omega)).mono ?_)
              rw [hE]
              rintro e w' ⟨hfr, rfl⟩
              refine ⟨_, _, _, rfl, hw.fr0 hfr, rfl, ?_⟩
              refine L_v rfl rfl rfl (V_move rfl rfl) ?_
              refine L_v rfl rfl rfl (V_extract rfl rfl rfl) ?_
              refine L_v rfl rfl rfl (V_extract rfl rfl rfl) ?_
              refine L_v rfl rfl rfl (V_assign rfl rfl) ?_
              refine L_v rfl rfl rfl (V_assign rfl rfl) ?_
              refine L_nil ?_
              change J _ _ _ _
              refine J_seq ?_
              refine J_seq ?_
              refine J_region ?_
              refine L_v rfl rfl rfl (V_move rfl rfl) ?_
              refine L_v rfl rfl rfl (V_move rfl rfl) ?_
              refine L_v rfl rfl rfl (V_move rfl rfl) ?_
              refine L_v rfl rfl rfl (V_move rfl rfl) ?_
              refine L_callV rfl rfl rfl rfl rfl rfl tx11s (fun w1 hw => laid_t nilB nilB [] k w1 (SlB.nil _ _) (SlB.nil _ _)) ?_
              refine L_v rfl rfl rfl (V_not rfl rfl rfl) ?_
              refine L_nil ?_
              change J _ _ _ _
              refine J_false rfl ?_
              refine J_skip ?_
              change J _ _ _ _
              refine J_seq ?_
              refine J_region ?_
              refine L_v rfl rfl rfl (V_move rfl rfl) ?_
              refine L_call rfl rfl rfl rfl tx33s (fun w1 hw => (getrecord_w none 0 0 [] w1 (SlB.nil _ _) byt0 (Nat.le_refl 0) (by decide)).mono ?_)
              rw [getW_rec0]
              rintro e w' ⟨hfr, rfl⟩
              refine ⟨_, _, _, rfl, hw.fr0 hfr, rfl, ?_⟩
              refine L_v rfl rfl rfl (V_move rfl rfl) ?_
              refine L_v rfl rfl rfl (V_extract rfl rfl rfl) ?_
              refine L_v rfl rfl rfl (V_extract rfl rfl rfl) ?_
              refine L_alloc rfl rfl rfl rfl z71s (fun b1 => ?_)
              refine L_storeW 1 rfl rfl rfl rfl rfl rfl (szd sz71s (by kernel_rfl)) (all_one (by kernel_rfl)) (by kernel_rfl) ?_
              refine L_v rfl rfl rfl (V_assign rfl rfl) ?_
              refine L_nil ?_
              change J _ _ _ _
              refine J_seq ?_
              refine J_region ?_
              refine L_callV rfl rfl rfl rfl rfl rfl tx34s (fun w1 hw => records_t w1) ?_
              refine L_v rfl rfl rfl (V_move rfl rfl) ?_
              refine L_wv rfl rfl rfl rfl rfl rfl (V_move rfl rfl) ?_
              refine L_wv rfl rfl rfl rfl rfl rfl (V_neq rfl rfl rfl (by first | exact decide_eq_true (by omega) | exact decide_eq_false (by omega) | rfl)) ?_
              refine L_wv rfl rfl rfl rfl rfl rfl (V_move rfl rfl) ?_
              refine L_skip rfl rfl rfl rfl rfl rfl rfl ?_
              refine L_skip rfl rfl rfl rfl rfl rfl rfl ?_
              refine L_skip rfl rfl rfl rfl rfl rfl rfl ?_
              refine L_skip rfl rfl rfl rfl rfl rfl rfl ?_
              refine L_skip rfl rfl rfl rfl rfl rfl rfl ?_
              refine L_skip rfl rfl rfl rfl rfl rfl rfl ?_
              refine L_skip rfl rfl rfl rfl rfl rfl rfl ?_
              first | refine L_wv rfl rfl rfl rfl rfl rfl (V_pickT rfl rfl rfl) ?_ | refine L_wv rfl rfl rfl rfl rfl rfl (V_pickF rfl rfl rfl) ?_
              first | refine L_v rfl rfl rfl (V_pickT rfl rfl rfl) ?_ | refine L_v rfl rfl rfl (V_pickF rfl rfl rfl) ?_
              refine L_v rfl rfl rfl (V_assign rfl rfl) ?_
              refine L_nil ?_
              change J _ _ _ _
              refine J_ret ?_
              change Kret _ _ _ Exit.ret _
              refine ret1 rfl rfl (RV_t rfl) ?_
              exact fun w' h => ⟨rfl, h.fr⟩
            ·
              have hML : M.length ≤ 1099511627776 := by have h := encTs_len hE; omega
              refine J_skip ?_
              change J _ _ _ _
              refine J_seq ?_
              refine J_region ?_
              refine L_v rfl rfl rfl (V_loadW 0 rfl rfl rfl Try.underlying71 rfl (szd sz71s (by kernel_rfl))) ?_
              refine L_call rfl rfl rfl rfl tx31s (fun w1 hw => (putrecord_w (.slice va x.2.2.2.1.2.2.2.2.1.length ca) (.slice vb x.2.2.2.1.2.2.2.2.2.length cb) (.slice vc x.2.2.2.2.2.1.2.2.1.1.length cc) (.slice vd x.2.2.2.2.2.1.2.2.1.2.length cd) x w1 (OkW.fw hw (fun f hf => hf)) (by omega)).mono ?_)
              rw [hE]
              rintro e w' ⟨hfr, a1, n1, c1, rfl, hs1, hc1, hn1⟩
              have hnw1 : ∀ k, (factB (.slice a1 n1 c1) M).fp k → w.heap.size ≤ k := fun j hk => Nat.le_trans hw.fr.size (hn1 j hk)
              refine ⟨_, _, _, rfl, OkW.fr0F hw (fs2 := [factB (.slice a1 n1 c1) M]) hfr (fun f hf => by obtain rfl := List.mem_singleton.1 hf; exact ⟨hs1, fun j hk => ⟨hn1 j hk, factB_lt hs1 j hk⟩⟩), rfl, ?_⟩
              refine L_v rfl rfl rfl (V_move rfl rfl) ?_
              refine L_v rfl rfl rfl (V_extract rfl rfl rfl) ?_
              refine L_v rfl rfl rfl (V_extract rfl rfl rfl) ?_
              refine L_v rfl rfl rfl (V_assign rfl rfl) ?_
              refine L_v rfl rfl rfl (V_assign rfl rfl) ?_
              refine L_nil ?_
              change J _ _ _ _
              refine J_seq ?_
              refine J_region ?_
              refine L_v rfl rfl rfl (V_loadW 0 rfl rfl rfl Try.underlying71 rfl (szd sz71s (by kernel_rfl))) ?_
              refine L_call rfl rfl rfl rfl tx32s (fun w1 hw => (rputrecord_w (.slice va x.2.2.2.1.2.2.2.2.1.length ca) (.slice vb x.2.2.2.1.2.2.2.2.2.length cb) (.slice vc x.2.2.2.2.2.1.2.2.1.1.length cc) (.slice vd x.2.2.2.2.2.1.2.2.1.2.length cd) x w1 (OkW.fw hw (fun f hf => List.mem_append_left _ (hf))) (by omega)).mono ?_)
              rw [hE]
              rintro e w' ⟨hfr, a2, n2, c2, rfl, hs2, hc2, hn2⟩
              have hnw2 : ∀ k, (factB (.slice a2 n2 c2) M).fp k → w.heap.size ≤ k := fun j hk => Nat.le_trans hw.fr.size (hn2 j hk)
              refine ⟨_, _, _, rfl, OkW.fr0F hw (fs2 := [factB (.slice a2 n2 c2) M]) hfr (fun f hf => by obtain rfl := List.mem_singleton.1 hf; exact ⟨hs2, fun j hk => ⟨hn2 j hk, factB_lt hs2 j hk⟩⟩), rfl, ?_⟩
              refine L_v rfl rfl rfl (V_move rfl rfl) ?_
              refine L_v rfl rfl rfl (V_extract rfl rfl rfl) ?_
              refine L_v rfl rfl rfl (V_extract rfl rfl rfl) ?_
              refine L_v rfl rfl rfl (V_assign rfl rfl) ?_
              refine L_v rfl rfl rfl (V_assign rfl rfl) ?_
              refine L_nil ?_
              change J _ _ _ _
              refine J_seq ?_
              refine J_seq ?_
              refine J_region ?_
              refine L_v rfl rfl rfl (V_move rfl rfl) ?_
              refine L_v rfl rfl rfl (V_move rfl rfl) ?_
              refine L_v rfl rfl rfl (V_move rfl rfl) ?_
              refine L_v rfl rfl rfl (V_move rfl rfl) ?_
              refine L_callV rfl rfl rfl rfl rfl rfl tx11s (fun w1 hw => laid_t _ _ M 0 w1 (fB hw 4 rfl) (fB hw 5 rfl)) ?_
              refine L_v rfl rfl rfl (V_not rfl rfl rfl) ?_
              refine L_nil ?_
              change J _ _ _ _
              refine J_false rfl ?_
              refine J_skip ?_
              change J _ _ _ _
              refine J_seq ?_
              refine J_region ?_
              refine L_v rfl rfl rfl (V_move rfl rfl) ?_
              refine L_call rfl rfl rfl rfl tx33s (fun w1 hw => (getrecord_w a1 n1 c1 M w1 (fB hw 4 rfl) (encTs_byt hb hE) hc1 (by first | decide | omega)).mono ?_)
              rw [getW_put recC hE]
              rintro e w' ⟨hfr, v, fs, rfl, hV, hf9⟩
              have hnw9 : ∀ f ∈ fs, ∀ k, f.fp k → w.heap.size ≤ k := fun f hf j hk => Nat.le_trans hw.fr.size ((hf9 f hf).2 j hk).1
              obtain ⟨ya1, yc1, ya2, yc2, ya3, yc3, ya4, yc4, rfl, rfl⟩ := hV
              refine ⟨_, _, _, rfl, OkW.fr0F hw hfr hf9, rfl, ?_⟩
              refine L_v rfl rfl rfl (V_move rfl rfl) ?_
              refine L_v rfl rfl rfl (V_extract rfl rfl rfl) ?_
              refine L_v rfl rfl rfl (V_extract rfl rfl rfl) ?_
              refine L_alloc rfl rfl rfl rfl z71s (fun b1 => ?_)
              refine L_storeW 1 rfl rfl rfl rfl rfl rfl (szd sz71s (by kernel_rfl)) (all_one (by kernel_rfl)) (by kernel_rfl) ?_
              refine L_v rfl rfl rfl (V_assign rfl rfl) ?_
              refine L_nil ?_
              change J _ _ _ _
              refine J_seq ?_
              refine J_region ?_
              refine L_callV rfl rfl rfl rfl rfl rfl tx34s (fun w1 hw => records_t w1) ?_
              refine L_v rfl rfl rfl (V_move rfl rfl) ?_
              refine L_wv rfl rfl rfl rfl rfl rfl (V_move rfl rfl) ?_
              refine L_wv rfl rfl rfl rfl rfl rfl (V_neq rfl rfl rfl (by first | exact decide_eq_true (by omega) | exact decide_eq_false (by omega) | rfl)) ?_
              refine L_wv rfl rfl rfl rfl rfl rfl (V_move rfl rfl) ?_
              refine L_wv rfl rfl rfl rfl rfl rfl (V_move rfl rfl) ?_
              refine L_wv rfl rfl rfl rfl rfl rfl (V_eql rfl rfl rfl (by first | exact decide_eq_true (by omega) | exact decide_eq_false (by omega) | rfl)) ?_
              refine L_wv rfl rfl rfl rfl rfl rfl (V_move rfl rfl) ?_
              refine L_wv rfl rfl rfl rfl rfl rfl (V_loadW 0 rfl rfl rfl Try.underlying71 rfl (szd sz71s (by kernel_rfl))) ?_
              refine L_wv rfl rfl rfl rfl rfl rfl (V_loadW 1 rfl rfl rfl Try.underlying71 rfl (szd sz71s (by kernel_rfl))) ?_
              refine L_wcallV rfl rfl rfl rfl rfl rfl rfl rfl rfl tx35s (fun w1 hw => samerec_t x (.slice va x.2.2.2.1.2.2.2.2.1.length ca) (.slice vb x.2.2.2.1.2.2.2.2.2.length cb) (.slice vc x.2.2.2.2.2.1.2.2.1.1.length cc) (.slice vd x.2.2.2.2.2.1.2.2.1.2.length cd) _ _ _ _ w1 (OkW.fw hw (fun f hf => List.mem_append_left _ (List.mem_append_left _ (List.mem_append_left _ (hf))))) (OkW.fw hw (fun f hf => List.mem_append_right _ hf)) ⟨by omega, by omega⟩ ⟨by omega, by omega⟩) ?_
              first | refine L_wv rfl rfl rfl rfl rfl rfl (V_pickT rfl rfl rfl) ?_ | refine L_wv rfl rfl rfl rfl rfl rfl (V_pickF rfl rfl rfl) ?_
              first | refine L_wv rfl rfl rfl rfl rfl rfl (V_pickT rfl rfl rfl) ?_ | refine L_wv rfl rfl rfl rfl rfl rfl (V_pickF rfl rfl rfl) ?_
              first | refine L_v rfl rfl rfl (V_pickT rfl rfl rfl) ?_ | refine L_v rfl rfl rfl (V_pickF rfl rfl rfl) ?_
              refine L_v rfl rfl rfl (V_assign rfl rfl) ?_
              refine L_nil ?_
              change J _ _ _ _
              refine J_ret ?_
              change Kret _ _ _ Exit.ret _
              refine ret1 rfl rfl (RV_t rfl) ?_
              exact fun w' h => ⟨rfl, h.fr⟩

theorem WireRecords_w (x : Rec) (u1 u2 u3 u4 : Value) (w : World) (hs : FW w (clF u1 u2 x.2.2.2.1.2.2.2.2 ++ clF u3 u4 x.2.2.2.2.2.1.2.2.1)) (hb : TB recC x) (q1 : Cap u1) (q2 : Cap u2) (q3 : Cap u3) (q4 : Cap u4) :
    Calls Try.prog 7 #[.agg (recV x u1 u2 u3 u4).toArray] w fun e w' => e = .returned (.bool true) ∧ Fr [] w w' := by
  obtain ⟨h1, h2⟩ := FW.clE (fun f hf => hs f (List.mem_append_left _ hf))
  obtain ⟨h3, h4⟩ := FW.clE (fun f hf => hs f (List.mem_append_right _ hf))
  obtain ⟨va, ca, rfl⟩ := h1.form
  obtain ⟨vb, cb, rfl⟩ := h2.form
  obtain ⟨vc, cc, rfl⟩ := h3.form
  obtain ⟨vd, cd, rfl⟩ := h4.form
  exact WireRecords0_w va vb vc vd ca cb cc cd x w hs hb
end Go.Proofs.Ytfgcfjojpakpjaa
