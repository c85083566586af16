/- What a law of layer 8 comes to. -/
import Derived.Test.YtfgcfjojpakpjaaWLaw
import Derived.Test.YtfgcfjojpakpjaaWOpenD
import Derived.Test.YtfgcfjojpakpjaaWWireDirectories
set_option linter.unusedVariables false
set_option linter.unusedSimpArgs false
set_option maxRecDepth 100000
namespace Go.Proofs.Ytfgcfjojpakpjaa
open Go.Sx
theorem enc_ne {t : Tok} {l : List Tok} {M : List Int} (h : encTs (t :: l) = .ok M) : M ≠ [] := by
  obtain ⟨x, y, h1, _, rfl⟩ := then2_ok h
  have := (encT_len h1).2
  intro e
  rw [(List.append_eq_nil_iff.1 e).1] at this
  exact absurd this (by decide)
theorem own_sl5 {cx : Cx} {m1 m2 : Mem} {fs : List Fact} {w : World} {q : OwnR} {n : Nat} {l : List Int} (h : OkW cx (m1 ++ (ownM 5 q (dg l) ++ m2)) fs w) (hq : OwnC 1 q n (dg l)) : SlB w (ownV q n) l := SlB.ofN (m1 := m1) (m2 := m2) (e := 5) h hq rfl
theorem dg_app1 (l : List Int) (z : Int) : dg l ++ [.int .u8 z] = dg (l ++ [z]) := by simp [dg]
theorem sz5wm : (Try.prog.info? 5).map (·.size) = some 1 := by kernel_rfl
theorem sz9wm : (Try.prog.info? 9).map (·.size) = some 1 := by kernel_rfl
theorem sz39wm : (Try.prog.info? 39).map (·.size) = some 38 := by kernel_rfl
theorem sz47wm : (Try.prog.info? 47).map (·.size) = some 2 := by kernel_rfl
theorem sz49wm : (Try.prog.info? 49).map (·.size) = some 43 := by kernel_rfl
theorem sz60wm : (Try.prog.info? 60).map (·.size) = some 4 := by kernel_rfl
theorem sz69wm : (Try.prog.info? 69).map (·.size) = some 5 := by kernel_rfl
theorem sz71wm : (Try.prog.info? 71).map (·.size) = some 149 := by kernel_rfl
theorem tx18wm : Txt Try.prog 18 := txt_of Try.func18 rfl (by kernel_rfl)
theorem tx24wm : Txt Try.prog 24 := txt_of Try.func24 rfl (by kernel_rfl)
theorem tx26wm : Txt Try.prog 26 := txt_of Try.func26 rfl (by kernel_rfl)
theorem tx29wm : Txt Try.prog 29 := txt_of Try.func29 rfl (by kernel_rfl)
theorem tx30wm : Txt Try.prog 30 := txt_of Try.func30 rfl (by kernel_rfl)
theorem tx31wm : Txt Try.prog 31 := txt_of Try.func31 rfl (by kernel_rfl)
theorem tx33wm : Txt Try.prog 33 := txt_of Try.func33 rfl (by kernel_rfl)
theorem tx34wm : Txt Try.prog 34 := txt_of Try.func34 rfl (by kernel_rfl)
theorem bz5wm : (Try.prog.info? 5).map (fun i => (i.zero, i.size)) = some (some (.int .u8 0), 1) := by kernel_rfl
theorem z60wm : (Try.prog.info? 60).bind (·.zero) = some (.agg [.int .i64 0, .slice none 0 0, .slice none 0 0, .slice none 0 0].toArray) := by kernel_rfl
theorem z71wm : (Try.prog.info? 71).bind (·.zero) = some (.agg [.int .i64 0, .int .i64 0, .int .i64 0, .int .i64 0, .int .i64 0, .int .i64 0, .int .i64 0, .int .i64 0, .int .i64 0, .string ByteArray.empty, .string ByteArray.empty, .int .i64 0, .int .u8 0, .int .u8 0, .int .u8 0, .int .u8 0, .int .u8 0, .int .u8 0, .int .u8 0, .int .u8 0, .int .u8 0, .int .u8 0, .int .u8 0, .int .u8 0, .int .u8 0, .int .u8 0, .int .u8 0, .int .u8 0, .int .u8 0, .int .u8 0, .int .u8 0, .int .u8 0, .int .u8 0, .int .u8 0, .int .u8 0, .int .u8 0, .int .u8 0, .int .u8 0, .int .u8 0, .int .u8 0, .int .u8 0, .int .u8 0, .int .u8 0, .int .u8 0, .slice none 0 0, .slice none 0 0, .int .i64 0, .int .i64 0, .int .i64 0, .slice none 0 0, .slice none 0 0, .string ByteArray.empty, .int .i64 0, .int .u8 0, .int .u8 0, .int .u8 0, .int .u8 0, .int .u8 0, .int .u8 0, .int .u8 0, .int .u8 0, .int .u8 0, .int .u8 0, .int .u8 0, .int .u8 0, .int .u8 0, .int .u8 0, .int .u8 0, .int .u8 0, .int .u8 0, .int .u8 0, .int .u8 0, .int .u8 0, .int .u8 0, .int .u8 0, .int .u8 0, .int .u8 0, .int .u8 0, .int .u8 0, .int .u8 0, .int .u8 0, .int .u8 0, .int .u8 0, .int .u8 0, .int .u8 0, .int .u8 0, .int .u8 0, .int .u8 0, .int .u8 0, .int .u8 0, .int .u8 0, .int .u8 0, .int .u8 0, .int .u8 0, .int .u8 0, .int .u8 0, .int .u8 0, .int .u8 0, .int .u8 0, .int .u8 0, .int .u8 0, .int .u8 0, .int .u8 0, .int .u8 0, .int .u8 0, .int .u8 0, .int .u8 0, .int .u8 0, .int .u8 0, .int .u8 0, .int .u8 0, .int .u8 0, .int .u8 0, .int .u8 0, .int .u8 0, .int .u8 0, .int .u8 0, .int .u8 0, .int .u8 0, .int .u8 0, .int .u8 0, .int .u8 0, .int .u8 0, .int .u8 0, .int .u8 0, .int .u8 0, .int .u8 0, .int .u8 0, .int .u8 0, .int .u8 0, .int .u8 0, .int .u8 0, .int .u8 0, .int .u8 0, .int .u8 0, .int .u8 0, .int .u8 0, .int .u8 0, .int .u8 0, .int .u8 0, .int .u8 0, .int .u8 0, .int .u8 0, .int .u8 0, .int .u8 0, .int .u8 0, .int .u8 0, .int .u8 0, .int .u8 0].toArray) := by kernel_rfl

set_option maxHeartbeats 8000000 in
theorem WireMore0_w (va vb vc vd : Option Addr) (ca cb cc cd : Nat) (x : Rec) (va1 va2 va3 : Option Addr) (vc1 vc2 vc3 : Nat) (e0 : Int) (us : List (Us × Value)) (hs : List Hd) (ss : List Se) (z : Int) (w : World) (hs0 : FW w ((clF (.slice va x.2.2.2.1.2.2.2.2.1.length ca) (.slice vb x.2.2.2.1.2.2.2.2.2.length cb) x.2.2.2.1.2.2.2.2 ++ clF (.slice vc x.2.2.2.2.2.1.2.2.1.1.length cc) (.slice vd x.2.2.2.2.2.1.2.2.1.2.length cd) x.2.2.2.2.2.1.2.2.1) ++ (factC 2 (.slice va1 us.length vc1) us.length (us.map usW).flatten :: factC 65 (.slice va2 hs.length vc2) hs.length (hs.map hdV).flatten :: factC 4 (.slice va3 ss.length vc3) ss.length (ss.map seV).flatten :: us.map usF))) (hb : TB recC x) (hb2 : TB drC (e0, us.map Prod.fst, hs, ss)) (hz : 0 ≤ z ∧ z < 256) :
    Calls Try.prog 8 #[.agg (recV x (.slice va x.2.2.2.1.2.2.2.2.1.length ca) (.slice vb x.2.2.2.1.2.2.2.2.2.length cb) (.slice vc x.2.2.2.2.2.1.2.2.1.1.length cc) (.slice vd x.2.2.2.2.2.1.2.2.1.2.length cd)).toArray, .agg (drV e0 (.slice va1 us.length vc1) (.slice va2 hs.length vc2) (.slice va3 ss.length vc3)).toArray, .int .u8 z] w fun e w' => e = .returned (.bool true) ∧ Fr [] w w' := by
  refine calls_of (args := [.agg (recV x (.slice va x.2.2.2.1.2.2.2.2.1.length ca) (.slice vb x.2.2.2.1.2.2.2.2.2.length cb) (.slice vc x.2.2.2.2.2.1.2.2.1.1.length cc) (.slice vd x.2.2.2.2.2.1.2.2.1.2.length cd)).toArray, .agg (drV e0 (.slice va1 us.length vc1) (.slice va2 hs.length vc2) (.slice va3 ss.length vc3)).toArray, .int .u8 z]) ([]) ([]) ((clF (.slice va x.2.2.2.1.2.2.2.2.1.length ca) (.slice vb x.2.2.2.1.2.2.2.2.2.length cb) x.2.2.2.1.2.2.2.2 ++ clF (.slice vc x.2.2.2.2.2.1.2.2.1.1.length cc) (.slice vd x.2.2.2.2.2.1.2.2.1.2.length cd) x.2.2.2.2.2.1.2.2.1) ++ (factC 2 (.slice va1 us.length vc1) us.length (us.map usW).flatten :: factC 65 (.slice va2 hs.length vc2) hs.length (hs.map hdV).flatten :: factC 4 (.slice va3 ss.length vc3) ss.length (ss.map seV).flatten :: us.map usF)) Try.func8 rfl rfl (okFW hs0) ?_
  by_cases h0 : (x.2.2.2.1.2.2.2.1.2.2.2.1.size : Int) > 262144
  ·
    refine J_seq ?_
    refine J_region ?_
    refine L_box rfl rfl rfl rfl rfl (fun b0 => ?_)
    refine L_box rfl rfl rfl rfl rfl (fun b1 => ?_)
    refine L_v rfl rfl rfl (V_assign rfl rfl) ?_
    refine L_nil ?_
    change J _ _ _ _
    refine J_seq ?_
    refine J_seq ?_
    refine J_region ?_
    refine L_v rfl rfl rfl (V_fieldAddr rfl rfl Try.underlying71 rfl sz49wm rfl) ?_
    refine L_v rfl rfl rfl (V_fieldAddr rfl rfl Try.underlying49 rfl sz39wm rfl) ?_
    refine L_v rfl rfl rfl (V_fieldAddr rfl rfl Try.underlying39 rfl sz9wm rfl) ?_
    refine L_v rfl rfl rfl (V_load1 0 rfl rfl rfl Try.underlying9 rfl (by first | rfl | exact dg_get (by omega) (by omega))) ?_
    refine L_v rfl rfl rfl (V_lenS rfl rfl Try.underlying9 rfl) ?_
    refine L_v rfl rfl rfl (V_gtr rfl rfl rfl (by first | exact decide_eq_true (by omega) | exact decide_eq_false (by omega) | exact decide_eq_false (fun h => h rfl) | rfl)) ?_
    refine L_v rfl rfl rfl (V_move rfl rfl) ?_
    refine L_skip rfl rfl rfl rfl rfl rfl rfl ?_
    refine L_skip rfl rfl rfl rfl rfl rfl rfl ?_
    refine L_skip rfl rfl rfl rfl rfl rfl rfl ?_
    refine L_skip rfl rfl rfl rfl rfl rfl rfl ?_
    refine L_skip rfl rfl rfl rfl rfl rfl rfl ?_
    refine L_skip rfl rfl rfl rfl rfl rfl rfl ?_
    first | refine L_v rfl rfl rfl (V_pickT rfl rfl rfl) ?_ | refine L_v rfl rfl rfl (V_pickF rfl rfl rfl) ?_
    refine L_v rfl rfl rfl (V_move rfl rfl) ?_
    refine L_skip rfl rfl rfl rfl rfl rfl rfl ?_
    refine L_skip rfl rfl rfl rfl rfl rfl rfl ?_
    refine L_skip rfl rfl rfl rfl rfl rfl rfl ?_
    refine L_skip rfl rfl rfl rfl rfl rfl rfl ?_
    refine L_skip rfl rfl rfl rfl rfl rfl rfl ?_
    first | refine L_v rfl rfl rfl (V_pickT rfl rfl rfl) ?_ | refine L_v rfl rfl rfl (V_pickF rfl rfl rfl) ?_
    refine L_v rfl rfl rfl (V_move rfl rfl) ?_
    refine L_skip rfl rfl rfl rfl rfl rfl rfl ?_
    refine L_skip rfl rfl rfl rfl rfl rfl rfl ?_
    refine L_skip rfl rfl rfl rfl rfl rfl rfl ?_
    refine L_skip rfl rfl rfl rfl rfl rfl rfl ?_
    first | refine L_v rfl rfl rfl (V_pickT rfl rfl rfl) ?_ | refine L_v rfl rfl rfl (V_pickF rfl rfl rfl) ?_
    refine L_v rfl rfl rfl (V_move rfl rfl) ?_
    refine L_skip rfl rfl rfl rfl rfl rfl rfl ?_
    refine L_skip rfl rfl rfl rfl rfl rfl rfl ?_
    refine L_skip rfl rfl rfl rfl rfl rfl rfl ?_
    refine L_skip rfl rfl rfl rfl rfl rfl rfl ?_
    first | refine L_v rfl rfl rfl (V_pickT rfl rfl rfl) ?_ | refine L_v rfl rfl rfl (V_pickF rfl rfl rfl) ?_
    refine L_v rfl rfl rfl (V_move rfl rfl) ?_
    refine L_skip rfl rfl rfl rfl rfl rfl rfl ?_
    refine L_skip rfl rfl rfl rfl rfl rfl rfl ?_
    first | refine L_v rfl rfl rfl (V_pickT rfl rfl rfl) ?_ | refine L_v rfl rfl rfl (V_pickF rfl rfl rfl) ?_
    refine L_nil ?_
    change J _ _ _ _
    refine J_true rfl ?_
    refine J_seq ?_
    refine J_region ?_
    refine L_v rfl rfl rfl (V_assign rfl rfl) ?_
    refine L_nil ?_
    change J _ _ _ _
    refine J_ret ?_
    change Kret _ _ _ Exit.ret _
    refine ret1 rfl rfl (RV_t rfl) ?_
    exact fun w' h => ⟨rfl, h.fr⟩
  ·
    by_cases h00 : (x.2.2.2.1.2.2.2.1.2.2.2.2.1.size : Int) > 262144
    ·
      refine J_seq ?_
      refine J_region ?_
      refine L_box rfl rfl rfl rfl rfl (fun b0 => ?_)
      refine L_box rfl rfl rfl rfl rfl (fun b1 => ?_)
      refine L_v rfl rfl rfl (V_assign rfl rfl) ?_
      refine L_nil ?_
      change J _ _ _ _
      refine J_seq ?_
      refine J_seq ?_
      refine J_region ?_
      refine L_v rfl rfl rfl (V_fieldAddr rfl rfl Try.underlying71 rfl sz49wm rfl) ?_
      refine L_v rfl rfl rfl (V_fieldAddr rfl rfl Try.underlying49 rfl sz39wm rfl) ?_
      refine L_v rfl rfl rfl (V_fieldAddr rfl rfl Try.underlying39 rfl sz9wm rfl) ?_
      refine L_v rfl rfl rfl (V_load1 0 rfl rfl rfl Try.underlying9 rfl (by first | rfl | exact dg_get (by omega) (by omega))) ?_
      refine L_v rfl rfl rfl (V_lenS rfl rfl Try.underlying9 rfl) ?_
      refine L_v rfl rfl rfl (V_gtr rfl rfl rfl (by first | exact decide_eq_true (by omega) | exact decide_eq_false (by omega) | exact decide_eq_false (fun h => h rfl) | rfl)) ?_
      refine L_v rfl rfl rfl (V_move rfl rfl) ?_
      refine L_wv rfl rfl rfl rfl rfl rfl (V_fieldAddr rfl rfl Try.underlying71 rfl sz49wm rfl) ?_
      refine L_wv rfl rfl rfl rfl rfl rfl (V_fieldAddr rfl rfl Try.underlying49 rfl sz39wm rfl) ?_
      refine L_wv rfl rfl rfl rfl rfl rfl (V_fieldAddr rfl rfl Try.underlying39 rfl sz9wm rfl) ?_
      refine L_wv rfl rfl rfl rfl rfl rfl (V_load1 0 rfl rfl rfl Try.underlying9 rfl (by first | rfl | exact dg_get (by omega) (by omega))) ?_
      refine L_wv rfl rfl rfl rfl rfl rfl (V_lenS rfl rfl Try.underlying9 rfl) ?_
      refine L_wv rfl rfl rfl rfl rfl rfl (V_gtr rfl rfl rfl (by first | exact decide_eq_true (by omega) | exact decide_eq_false (by omega) | exact decide_eq_false (fun h => h rfl) | rfl)) ?_
      first | refine L_v rfl rfl rfl (V_pickT rfl rfl rfl) ?_ | refine L_v rfl rfl rfl (V_pickF rfl rfl rfl) ?_
      refine L_v rfl rfl rfl (V_move rfl rfl) ?_
      refine L_skip rfl rfl rfl rfl rfl rfl rfl ?_
      refine L_skip rfl rfl rfl rfl rfl rfl rfl ?_
      refine L_skip rfl rfl rfl rfl rfl rfl rfl ?_
      refine L_skip rfl rfl rfl rfl rfl rfl rfl ?_
      refine L_skip rfl rfl rfl rfl rfl rfl rfl ?_
      first | refine L_v rfl rfl rfl (V_pickT rfl rfl rfl) ?_ | refine L_v rfl rfl rfl (V_pickF rfl rfl rfl) ?_
      refine L_v rfl rfl rfl (V_move rfl rfl) ?_
      refine L_skip rfl rfl rfl rfl rfl rfl rfl ?_
      refine L_skip rfl rfl rfl rfl rfl rfl rfl ?_
      refine L_skip rfl rfl rfl rfl rfl rfl rfl ?_
      refine L_skip rfl rfl rfl rfl rfl rfl rfl ?_
      first | refine L_v rfl rfl rfl (V_pickT rfl rfl rfl) ?_ | refine L_v rfl rfl rfl (V_pickF rfl rfl rfl) ?_
      refine L_v rfl rfl rfl (V_move rfl rfl) ?_
      refine L_skip rfl rfl rfl rfl rfl rfl rfl ?_
      refine L_skip rfl rfl rfl rfl rfl rfl rfl ?_
      refine L_skip rfl rfl rfl rfl rfl rfl rfl ?_
      refine L_skip rfl rfl rfl rfl rfl rfl rfl ?_
      first | refine L_v rfl rfl rfl (V_pickT rfl rfl rfl) ?_ | refine L_v rfl rfl rfl (V_pickF rfl rfl rfl) ?_
      refine L_v rfl rfl rfl (V_move rfl rfl) ?_
      refine L_skip rfl rfl rfl rfl rfl rfl rfl ?_
      refine L_skip rfl rfl rfl rfl rfl rfl rfl ?_
      first | refine L_v rfl rfl rfl (V_pickT rfl rfl rfl) ?_ | refine L_v rfl rfl rfl (V_pickF rfl rfl rfl) ?_
      refine L_nil ?_
      change J _ _ _ _
      refine J_true rfl ?_
      refine J_seq ?_
      refine J_region ?_
      refine L_v rfl rfl rfl (V_assign rfl rfl) ?_
      refine L_nil ?_
      change J _ _ _ _
      refine J_ret ?_
      change Kret _ _ _ Exit.ret _
      refine ret1 rfl rfl (RV_t rfl) ?_
      exact fun w' h => ⟨rfl, h.fr⟩
    ·
      by_cases h000 : (x.2.2.2.2.2.1.2.2.2.size : Int) > 262144
      ·
        refine J_seq ?_
        refine J_region ?_
        refine L_box rfl rfl rfl rfl rfl (fun b0 => ?_)
        refine L_box rfl rfl rfl rfl rfl (fun b1 => ?_)
        refine L_v rfl rfl rfl (V_assign rfl rfl) ?_
        refine L_nil ?_
        change J _ _ _ _
        refine J_seq ?_
        refine J_seq ?_
        refine J_region ?_
        refine L_v rfl rfl rfl (V_fieldAddr rfl rfl Try.underlying71 rfl sz49wm rfl) ?_
        refine L_v rfl rfl rfl (V_fieldAddr rfl rfl Try.underlying49 rfl sz39wm rfl) ?_
        refine L_v rfl rfl rfl (V_fieldAddr rfl rfl Try.underlying39 rfl sz9wm rfl) ?_
        refine L_v rfl rfl rfl (V_load1 0 rfl rfl rfl Try.underlying9 rfl (by first | rfl | exact dg_get (by omega) (by omega))) ?_
        refine L_v rfl rfl rfl (V_lenS rfl rfl Try.underlying9 rfl) ?_
        refine L_v rfl rfl rfl (V_gtr rfl rfl rfl (by first | exact decide_eq_true (by omega) | exact decide_eq_false (by omega) | exact decide_eq_false (fun h => h rfl) | rfl)) ?_
        refine L_v rfl rfl rfl (V_move rfl rfl) ?_
        refine L_wv rfl rfl rfl rfl rfl rfl (V_fieldAddr rfl rfl Try.underlying71 rfl sz49wm rfl) ?_
        refine L_wv rfl rfl rfl rfl rfl rfl (V_fieldAddr rfl rfl Try.underlying49 rfl sz39wm rfl) ?_
        refine L_wv rfl rfl rfl rfl rfl rfl (V_fieldAddr rfl rfl Try.underlying39 rfl sz9wm rfl) ?_
        refine L_wv rfl rfl rfl rfl rfl rfl (V_load1 0 rfl rfl rfl Try.underlying9 rfl (by first | rfl | exact dg_get (by omega) (by omega))) ?_
        refine L_wv rfl rfl rfl rfl rfl rfl (V_lenS rfl rfl Try.underlying9 rfl) ?_
        refine L_wv rfl rfl rfl rfl rfl rfl (V_gtr rfl rfl rfl (by first | exact decide_eq_true (by omega) | exact decide_eq_false (by omega) | exact decide_eq_false (fun h => h rfl) | rfl)) ?_
        first | refine L_v rfl rfl rfl (V_pickT rfl rfl rfl) ?_ | refine L_v rfl rfl rfl (V_pickF rfl rfl rfl) ?_
        refine L_v rfl rfl rfl (V_move rfl rfl) ?_
        refine L_wv rfl rfl rfl rfl rfl rfl (V_fieldAddr rfl rfl Try.underlying71 rfl sz69wm rfl) ?_
        refine L_wv rfl rfl rfl rfl rfl rfl (V_fieldAddr rfl rfl Try.underlying69 rfl sz9wm rfl) ?_
        refine L_wv rfl rfl rfl rfl rfl rfl (V_load1 0 rfl rfl rfl Try.underlying9 rfl (by first | rfl | exact dg_get (by omega) (by omega))) ?_
        refine L_wv rfl rfl rfl rfl rfl rfl (V_lenS rfl rfl Try.underlying9 rfl) ?_
        refine L_wv rfl rfl rfl rfl rfl rfl (V_gtr rfl rfl rfl (by first | exact decide_eq_true (by omega) | exact decide_eq_false (by omega) | exact decide_eq_false (fun h => h rfl) | rfl)) ?_
        first | refine L_v rfl rfl rfl (V_pickT rfl rfl rfl) ?_ | refine L_v rfl rfl rfl (V_pickF rfl rfl rfl) ?_
        refine L_v rfl rfl rfl (V_move rfl rfl) ?_
        refine L_skip rfl rfl rfl rfl rfl rfl rfl ?_
        refine L_skip rfl rfl rfl rfl rfl rfl rfl ?_
        refine L_skip rfl rfl rfl rfl rfl rfl rfl ?_
        refine L_skip rfl rfl rfl rfl rfl rfl rfl ?_
        first | refine L_v rfl rfl rfl (V_pickT rfl rfl rfl) ?_ | refine L_v rfl rfl rfl (V_pickF rfl rfl rfl) ?_
        refine L_v rfl rfl rfl (V_move rfl rfl) ?_
        refine L_skip rfl rfl rfl rfl rfl rfl rfl ?_
        refine L_skip rfl rfl rfl rfl rfl rfl rfl ?_
        refine L_skip rfl rfl rfl rfl rfl rfl rfl ?_
        refine L_skip rfl rfl rfl rfl rfl rfl rfl ?_
        first | refine L_v rfl rfl rfl (V_pickT rfl rfl rfl) ?_ | refine L_v rfl rfl rfl (V_pickF rfl rfl rfl) ?_
        refine L_v rfl rfl rfl (V_move rfl rfl) ?_
        refine L_skip rfl rfl rfl rfl rfl rfl rfl ?_
        refine L_skip rfl rfl rfl rfl rfl rfl rfl ?_
        first | refine L_v rfl rfl rfl (V_pickT rfl rfl rfl) ?_ | refine L_v rfl rfl rfl (V_pickF rfl rfl rfl) ?_
        refine L_nil ?_
        change J _ _ _ _
        refine J_true rfl ?_
        refine J_seq ?_
        refine J_region ?_
        refine L_v rfl rfl rfl (V_assign rfl rfl) ?_
        refine L_nil ?_
        change J _ _ _ _
        refine J_ret ?_
        change Kret _ _ _ Exit.ret _
        refine ret1 rfl rfl (RV_t rfl) ?_
        exact fun w' h => ⟨rfl, h.fr⟩
      ·
        by_cases hbg : 5000 < x.2.2.2.1.2.2.2.2.1.length ∨ 5000 < x.2.2.2.1.2.2.2.2.2.length
        ·
          refine J_seq ?_
          refine J_region ?_
          refine L_box rfl rfl rfl rfl rfl (fun b0 => ?_)
          refine L_box rfl rfl rfl rfl rfl (fun b1 => ?_)
          refine L_v rfl rfl rfl (V_assign rfl rfl) ?_
          refine L_nil ?_
          change J _ _ _ _
          refine J_seq ?_
          refine J_seq ?_
          refine J_region ?_
          refine L_v rfl rfl rfl (V_fieldAddr rfl rfl Try.underlying71 rfl sz49wm rfl) ?_
          refine L_v rfl rfl rfl (V_fieldAddr rfl rfl Try.underlying49 rfl sz39wm rfl) ?_
          refine L_v rfl rfl rfl (V_fieldAddr rfl rfl Try.underlying39 rfl sz9wm rfl) ?_
          refine L_v rfl rfl rfl (V_load1 0 rfl rfl rfl Try.underlying9 rfl (by first | rfl | exact dg_get (by omega) (by omega))) ?_
          refine L_v rfl rfl rfl (V_lenS rfl rfl Try.underlying9 rfl) ?_
          refine L_v rfl rfl rfl (V_gtr rfl rfl rfl (by first | exact decide_eq_true (by omega) | exact decide_eq_false (by omega) | exact decide_eq_false (fun h => h rfl) | rfl)) ?_
          refine L_v rfl rfl rfl (V_move rfl rfl) ?_
          refine L_wv rfl rfl rfl rfl rfl rfl (V_fieldAddr rfl rfl Try.underlying71 rfl sz49wm rfl) ?_
          refine L_wv rfl rfl rfl rfl rfl rfl (V_fieldAddr rfl rfl Try.underlying49 rfl sz39wm rfl) ?_
          refine L_wv rfl rfl rfl rfl rfl rfl (V_fieldAddr rfl rfl Try.underlying39 rfl sz9wm rfl) ?_
          refine L_wv rfl rfl rfl rfl rfl rfl (V_load1 0 rfl rfl rfl Try.underlying9 rfl (by first | rfl | exact dg_get (by omega) (by omega))) ?_
          refine L_wv rfl rfl rfl rfl rfl rfl (V_lenS rfl rfl Try.underlying9 rfl) ?_
          refine L_wv rfl rfl rfl rfl rfl rfl (V_gtr rfl rfl rfl (by first | exact decide_eq_true (by omega) | exact decide_eq_false (by omega) | exact decide_eq_false (fun h => h rfl) | rfl)) ?_
          first | refine L_v rfl rfl rfl (V_pickT rfl rfl rfl) ?_ | refine L_v rfl rfl rfl (V_pickF rfl rfl rfl) ?_
          refine L_v rfl rfl rfl (V_move rfl rfl) ?_
          refine L_wv rfl rfl rfl rfl rfl rfl (V_fieldAddr rfl rfl Try.underlying71 rfl sz69wm rfl) ?_
          refine L_wv rfl rfl rfl rfl rfl rfl (V_fieldAddr rfl rfl Try.underlying69 rfl sz9wm rfl) ?_
          refine L_wv rfl rfl rfl rfl rfl rfl (V_load1 0 rfl rfl rfl Try.underlying9 rfl (by first | rfl | exact dg_get (by omega) (by omega))) ?_
          refine L_wv rfl rfl rfl rfl rfl rfl (V_lenS rfl rfl Try.underlying9 rfl) ?_
          refine L_wv rfl rfl rfl rfl rfl rfl (V_gtr rfl rfl rfl (by first | exact decide_eq_true (by omega) | exact decide_eq_false (by omega) | exact decide_eq_false (fun h => h rfl) | rfl)) ?_
          first | refine L_v rfl rfl rfl (V_pickT rfl rfl rfl) ?_ | refine L_v rfl rfl rfl (V_pickF rfl rfl rfl) ?_
          refine L_v rfl rfl rfl (V_move rfl rfl) ?_
          refine L_wv rfl rfl rfl rfl rfl rfl (V_fieldAddr rfl rfl Try.underlying71 rfl sz49wm rfl) ?_
          refine L_wv rfl rfl rfl rfl rfl rfl (V_fieldAddr rfl rfl Try.underlying49 rfl sz47wm rfl) ?_
          refine L_wv rfl rfl rfl rfl rfl rfl (V_loadT 0 (vs := clV (.slice va x.2.2.2.1.2.2.2.2.1.length ca) (.slice vb x.2.2.2.1.2.2.2.2.2.length cb)) rfl rfl rfl Try.underlying47 rfl sz47wm rfl rfl) ?_
          refine L_wcallV rfl rfl rfl rfl rfl rfl rfl rfl rfl tx18wm (fun w1 hw => big_t va vb _ _ ca cb w1 hbg) ?_
          first | refine L_v rfl rfl rfl (V_pickT rfl rfl rfl) ?_ | refine L_v rfl rfl rfl (V_pickF rfl rfl rfl) ?_
          refine L_v rfl rfl rfl (V_move rfl rfl) ?_
          refine L_skip rfl rfl rfl rfl rfl rfl rfl ?_
          refine L_skip rfl rfl rfl rfl rfl rfl rfl ?_
          refine L_skip rfl rfl rfl rfl rfl rfl rfl ?_
          refine L_skip rfl rfl rfl rfl rfl rfl rfl ?_
          first | refine L_v rfl rfl rfl (V_pickT rfl rfl rfl) ?_ | refine L_v rfl rfl rfl (V_pickF rfl rfl rfl) ?_
          refine L_v rfl rfl rfl (V_move rfl rfl) ?_
          refine L_skip rfl rfl rfl rfl rfl rfl rfl ?_
          refine L_skip rfl rfl rfl rfl rfl rfl rfl ?_
          first | refine L_v rfl rfl rfl (V_pickT rfl rfl rfl) ?_ | refine L_v rfl rfl rfl (V_pickF rfl rfl rfl) ?_
          refine L_nil ?_
          change J _ _ _ _
          refine J_true rfl ?_
          refine J_seq ?_
          refine J_region ?_
          refine L_v rfl rfl rfl (V_assign rfl rfl) ?_
          refine L_nil ?_
          change J _ _ _ _
          refine J_ret ?_
          change Kret _ _ _ Exit.ret _
          refine ret1 rfl rfl (RV_t rfl) ?_
          exact fun w' h => ⟨rfl, h.fr⟩
        ·
          by_cases hbg2 : 5000 < x.2.2.2.2.2.1.2.2.1.1.length ∨ 5000 < x.2.2.2.2.2.1.2.2.1.2.length
          ·
            refine J_seq ?_
            refine J_region ?_
            refine L_box rfl rfl rfl rfl rfl (fun b0 => ?_)
            refine L_box rfl rfl rfl rfl rfl (fun b1 => ?_)
            refine L_v rfl rfl rfl (V_assign rfl rfl) ?_
            refine L_nil ?_
            change J _ _ _ _
            refine J_seq ?_
            refine J_seq ?_
            refine J_region ?_
            refine L_v rfl rfl rfl (V_fieldAddr rfl rfl Try.underlying71 rfl sz49wm rfl) ?_
            refine L_v rfl rfl rfl (V_fieldAddr rfl rfl Try.underlying49 rfl sz39wm rfl) ?_
            refine L_v rfl rfl rfl (V_fieldAddr rfl rfl Try.underlying39 rfl sz9wm rfl) ?_
            refine L_v rfl rfl rfl (V_load1 0 rfl rfl rfl Try.underlying9 rfl (by first | rfl | exact dg_get (by omega) (by omega))) ?_
            refine L_v rfl rfl rfl (V_lenS rfl rfl Try.underlying9 rfl) ?_
            refine L_v rfl rfl rfl (V_gtr rfl rfl rfl (by first | exact decide_eq_true (by omega) | exact decide_eq_false (by omega) | exact decide_eq_false (fun h => h rfl) | rfl)) ?_
            refine L_v rfl rfl rfl (V_move rfl rfl) ?_
            refine L_wv rfl rfl rfl rfl rfl rfl (V_fieldAddr rfl rfl Try.underlying71 rfl sz49wm rfl) ?_
            refine L_wv rfl rfl rfl rfl rfl rfl (V_fieldAddr rfl rfl Try.underlying49 rfl sz39wm rfl) ?_
            refine L_wv rfl rfl rfl rfl rfl rfl (V_fieldAddr rfl rfl Try.underlying39 rfl sz9wm rfl) ?_
            refine L_wv rfl rfl rfl rfl rfl rfl (V_load1 0 rfl rfl rfl Try.underlying9 rfl (by first | rfl | exact dg_get (by omega) (by omega))) ?_
            refine L_wv rfl rfl rfl rfl rfl rfl (V_lenS rfl rfl Try.underlying9 rfl) ?_
            refine L_wv rfl rfl rfl rfl rfl rfl (V_gtr rfl rfl rfl (by first | exact decide_eq_true (by omega) | exact decide_eq_false (by omega) | exact decide_eq_false (fun h => h rfl) | rfl)) ?_
            first | refine L_v rfl rfl rfl (V_pickT rfl rfl rfl) ?_ | refine L_v rfl rfl rfl (V_pickF rfl rfl rfl) ?_
            refine L_v rfl rfl rfl (V_move rfl rfl) ?_
            refine L_wv rfl rfl rfl rfl rfl rfl (V_fieldAddr rfl rfl Try.underlying71 rfl sz69wm rfl) ?_
            refine L_wv rfl rfl rfl rfl rfl rfl (V_fieldAddr rfl rfl Try.underlying69 rfl sz9wm rfl) ?_
            refine L_wv rfl rfl rfl rfl rfl rfl (V_load1 0 rfl rfl rfl Try.underlying9 rfl (by first | rfl | exact dg_get (by omega) (by omega))) ?_
            refine L_wv rfl rfl rfl rfl rfl rfl (V_lenS rfl rfl Try.underlying9 rfl) ?_
            refine L_wv rfl rfl rfl rfl rfl rfl (V_gtr rfl rfl rfl (by first | exact decide_eq_true (by omega) | exact decide_eq_false (by omega) | exact decide_eq_false (fun h => h rfl) | rfl)) ?_
            first | refine L_v rfl rfl rfl (V_pickT rfl rfl rfl) ?_ | refine L_v rfl rfl rfl (V_pickF rfl rfl rfl) ?_
            refine L_v rfl rfl rfl (V_move rfl rfl) ?_
            refine L_wv rfl rfl rfl rfl rfl rfl (V_fieldAddr rfl rfl Try.underlying71 rfl sz49wm rfl) ?_
            refine L_wv rfl rfl rfl rfl rfl rfl (V_fieldAddr rfl rfl Try.underlying49 rfl sz47wm rfl) ?_
            refine L_wv rfl rfl rfl rfl rfl rfl (V_loadT 0 (vs := clV (.slice va x.2.2.2.1.2.2.2.2.1.length ca) (.slice vb x.2.2.2.1.2.2.2.2.2.length cb)) rfl rfl rfl Try.underlying47 rfl sz47wm rfl rfl) ?_
            refine L_wcallV rfl rfl rfl rfl rfl rfl rfl rfl rfl tx18wm (fun w1 hw => big_f va vb _ _ ca cb w1 (by omega)) ?_
            first | refine L_v rfl rfl rfl (V_pickT rfl rfl rfl) ?_ | refine L_v rfl rfl rfl (V_pickF rfl rfl rfl) ?_
            refine L_v rfl rfl rfl (V_move rfl rfl) ?_
            refine L_wv rfl rfl rfl rfl rfl rfl (V_fieldAddr rfl rfl Try.underlying71 rfl sz69wm rfl) ?_
            refine L_wv rfl rfl rfl rfl rfl rfl (V_fieldAddr rfl rfl Try.underlying69 rfl sz47wm rfl) ?_
            refine L_wv rfl rfl rfl rfl rfl rfl (V_loadT 0 (vs := clV (.slice vc x.2.2.2.2.2.1.2.2.1.1.length cc) (.slice vd x.2.2.2.2.2.1.2.2.1.2.length cd)) rfl rfl rfl Try.underlying47 rfl sz47wm rfl rfl) ?_
            refine L_wcallV rfl rfl rfl rfl rfl rfl rfl rfl rfl tx18wm (fun w1 hw => big_t vc vd _ _ cc cd w1 hbg2) ?_
            first | refine L_v rfl rfl rfl (V_pickT rfl rfl rfl) ?_ | refine L_v rfl rfl rfl (V_pickF rfl rfl rfl) ?_
            refine L_v rfl rfl rfl (V_move rfl rfl) ?_
            refine L_skip rfl rfl rfl rfl rfl rfl rfl ?_
            refine L_skip rfl rfl rfl rfl rfl rfl rfl ?_
            first | refine L_v rfl rfl rfl (V_pickT rfl rfl rfl) ?_ | refine L_v rfl rfl rfl (V_pickF rfl rfl rfl) ?_
            refine L_nil ?_
            change J _ _ _ _
            refine J_true rfl ?_
            refine J_seq ?_
            refine J_region ?_
            refine L_v rfl rfl rfl (V_assign rfl rfl) ?_
            refine L_nil ?_
            change J _ _ _ _
            refine J_ret ?_
            change Kret _ _ _ Exit.ret _
            refine ret1 rfl rfl (RV_t rfl) ?_
            exact fun w' h => ⟨rfl, h.fr⟩
          ·
            by_cases hbd : bigD us hs ss
            ·
              refine J_seq ?_
              refine J_region ?_
              refine L_box rfl rfl rfl rfl rfl (fun b0 => ?_)
              refine L_box rfl rfl rfl rfl rfl (fun b1 => ?_)
              refine L_v rfl rfl rfl (V_assign rfl rfl) ?_
              refine L_nil ?_
              change J _ _ _ _
              refine J_seq ?_
              refine J_seq ?_
              refine J_region ?_
              refine L_v rfl rfl rfl (V_fieldAddr rfl rfl Try.underlying71 rfl sz49wm rfl) ?_
              refine L_v rfl rfl rfl (V_fieldAddr rfl rfl Try.underlying49 rfl sz39wm rfl) ?_
              refine L_v rfl rfl rfl (V_fieldAddr rfl rfl Try.underlying39 rfl sz9wm rfl) ?_
              refine L_v rfl rfl rfl (V_load1 0 rfl rfl rfl Try.underlying9 rfl (by first | rfl | exact dg_get (by omega) (by omega))) ?_
              refine L_v rfl rfl rfl (V_lenS rfl rfl Try.underlying9 rfl) ?_
              refine L_v rfl rfl rfl (V_gtr rfl rfl rfl (by first | exact decide_eq_true (by omega) | exact decide_eq_false (by omega) | exact decide_eq_false (fun h => h rfl) | rfl)) ?_
              refine L_v rfl rfl rfl (V_move rfl rfl) ?_
              refine L_wv rfl rfl rfl rfl rfl rfl (V_fieldAddr rfl rfl Try.underlying71 rfl sz49wm rfl) ?_
              refine L_wv rfl rfl rfl rfl rfl rfl (V_fieldAddr rfl rfl Try.underlying49 rfl sz39wm rfl) ?_
              refine L_wv rfl rfl rfl rfl rfl rfl (V_fieldAddr rfl rfl Try.underlying39 rfl sz9wm rfl) ?_
              refine L_wv rfl rfl rfl rfl rfl rfl (V_load1 0 rfl rfl rfl Try.underlying9 rfl (by first | rfl | exact dg_get (by omega) (by omega))) ?_
              refine L_wv rfl rfl rfl rfl rfl rfl (V_lenS rfl rfl Try.underlying9 rfl) ?_
              refine L_wv rfl rfl rfl rfl rfl rfl (V_gtr rfl rfl rfl (by first | exact decide_eq_true (by omega) | exact decide_eq_false (by omega) | exact decide_eq_false (fun h => h rfl) | rfl)) ?_
              first | refine L_v rfl rfl rfl (V_pickT rfl rfl rfl) ?_ | refine L_v rfl rfl rfl (V_pickF rfl rfl rfl) ?_
              refine L_v rfl rfl rfl (V_move rfl rfl) ?_
              refine L_wv rfl rfl rfl rfl rfl rfl (V_fieldAddr rfl rfl Try.underlying71 rfl sz69wm rfl) ?_
              refine L_wv rfl rfl rfl rfl rfl rfl (V_fieldAddr rfl rfl Try.underlying69 rfl sz9wm rfl) ?_
              refine L_wv rfl rfl rfl rfl rfl rfl (V_load1 0 rfl rfl rfl Try.underlying9 rfl (by first | rfl | exact dg_get (by omega) (by omega))) ?_
              refine L_wv rfl rfl rfl rfl rfl rfl (V_lenS rfl rfl Try.underlying9 rfl) ?_
              refine L_wv rfl rfl rfl rfl rfl rfl (V_gtr rfl rfl rfl (by first | exact decide_eq_true (by omega) | exact decide_eq_false (by omega) | exact decide_eq_false (fun h => h rfl) | rfl)) ?_
              first | refine L_v rfl rfl rfl (V_pickT rfl rfl rfl) ?_ | refine L_v rfl rfl rfl (V_pickF rfl rfl rfl) ?_
              refine L_v rfl rfl rfl (V_move rfl rfl) ?_
              refine L_wv rfl rfl rfl rfl rfl rfl (V_fieldAddr rfl rfl Try.underlying71 rfl sz49wm rfl) ?_
              refine L_wv rfl rfl rfl rfl rfl rfl (V_fieldAddr rfl rfl Try.underlying49 rfl sz47wm rfl) ?_
              refine L_wv rfl rfl rfl rfl rfl rfl (V_loadT 0 (vs := clV (.slice va x.2.2.2.1.2.2.2.2.1.length ca) (.slice vb x.2.2.2.1.2.2.2.2.2.length cb)) rfl rfl rfl Try.underlying47 rfl sz47wm rfl rfl) ?_
              refine L_wcallV rfl rfl rfl rfl rfl rfl rfl rfl rfl tx18wm (fun w1 hw => big_f va vb _ _ ca cb w1 (by omega)) ?_
              first | refine L_v rfl rfl rfl (V_pickT rfl rfl rfl) ?_ | refine L_v rfl rfl rfl (V_pickF rfl rfl rfl) ?_
              refine L_v rfl rfl rfl (V_move rfl rfl) ?_
              refine L_wv rfl rfl rfl rfl rfl rfl (V_fieldAddr rfl rfl Try.underlying71 rfl sz69wm rfl) ?_
              refine L_wv rfl rfl rfl rfl rfl rfl (V_fieldAddr rfl rfl Try.underlying69 rfl sz47wm rfl) ?_
              refine L_wv rfl rfl rfl rfl rfl rfl (V_loadT 0 (vs := clV (.slice vc x.2.2.2.2.2.1.2.2.1.1.length cc) (.slice vd x.2.2.2.2.2.1.2.2.1.2.length cd)) rfl rfl rfl Try.underlying47 rfl sz47wm rfl rfl) ?_
              refine L_wcallV rfl rfl rfl rfl rfl rfl rfl rfl rfl tx18wm (fun w1 hw => big_f vc vd _ _ cc cd w1 (by omega)) ?_
              first | refine L_v rfl rfl rfl (V_pickT rfl rfl rfl) ?_ | refine L_v rfl rfl rfl (V_pickF rfl rfl rfl) ?_
              refine L_v rfl rfl rfl (V_move rfl rfl) ?_
              refine L_wv rfl rfl rfl rfl rfl rfl (V_loadW 1 rfl rfl rfl Try.underlying60 rfl (szd sz60wm (by kernel_rfl))) ?_
              refine L_wcallV rfl rfl rfl rfl rfl rfl rfl rfl rfl tx24wm (fun w1 hw => bigd_t va1 va2 va3 vc1 vc2 vc3 e0 us hs ss w1 (OkW.fw hw (fun f hf => List.mem_append_right _ hf)) hbd) ?_
              first | refine L_v rfl rfl rfl (V_pickT rfl rfl rfl) ?_ | refine L_v rfl rfl rfl (V_pickF rfl rfl rfl) ?_
              refine L_nil ?_
              change J _ _ _ _
              refine J_true rfl ?_
              refine J_seq ?_
              refine J_region ?_
              refine L_v rfl rfl rfl (V_assign rfl rfl) ?_
              refine L_nil ?_
              change J _ _ _ _
              refine J_ret ?_
              change Kret _ _ _ Exit.ret _
              refine ret1 rfl rfl (RV_t rfl) ?_
              exact fun w' h => ⟨rfl, h.fr⟩
            ·
              have hbs : us.length ≤ 5000 ∧ hs.length ≤ 5000 ∧ ss.length ≤ 5000 ∧ smU us us.length ≤ 5000 := by refine ⟨?_, ?_, ?_, ?_⟩ <;> (apply Nat.le_of_not_lt; intro h; exact hbd (by first | exact .inl h | exact .inr (.inl h) | exact .inr (.inr (.inl h)) | exact .inr (.inr (.inr h))))
              have hFl := smU_all hbs.2.2.2
              have hT2 := dr_len e0 us hs ss
              have hT := rec_len x
              refine J_seq ?_
              refine J_region ?_
              refine L_box rfl rfl rfl rfl rfl (fun b0 => ?_)
              refine L_box rfl rfl rfl rfl rfl (fun b1 => ?_)
              refine L_v rfl rfl rfl (V_assign rfl rfl) ?_
              refine L_nil ?_
              change J _ _ _ _
              refine J_seq ?_
              refine J_seq ?_
              refine J_region ?_
              refine L_v rfl rfl rfl (V_fieldAddr rfl rfl Try.underlying71 rfl sz49wm rfl) ?_
              refine L_v rfl rfl rfl (V_fieldAddr rfl rfl Try.underlying49 rfl sz39wm rfl) ?_
              refine L_v rfl rfl rfl (V_fieldAddr rfl rfl Try.underlying39 rfl sz9wm rfl) ?_
              refine L_v rfl rfl rfl (V_load1 0 rfl rfl rfl Try.underlying9 rfl (by first | rfl | exact dg_get (by omega) (by omega))) ?_
              refine L_v rfl rfl rfl (V_lenS rfl rfl Try.underlying9 rfl) ?_
              refine L_v rfl rfl rfl (V_gtr rfl rfl rfl (by first | exact decide_eq_true (by omega) | exact decide_eq_false (by omega) | exact decide_eq_false (fun h => h rfl) | rfl)) ?_
              refine L_v rfl rfl rfl (V_move rfl rfl) ?_
              refine L_wv rfl rfl rfl rfl rfl rfl (V_fieldAddr rfl rfl Try.underlying71 rfl sz49wm rfl) ?_
              refine L_wv rfl rfl rfl rfl rfl rfl (V_fieldAddr rfl rfl Try.underlying49 rfl sz39wm rfl) ?_
              refine L_wv rfl rfl rfl rfl rfl rfl (V_fieldAddr rfl rfl Try.underlying39 rfl sz9wm rfl) ?_
              refine L_wv rfl rfl rfl rfl rfl rfl (V_load1 0 rfl rfl rfl Try.underlying9 rfl (by first | rfl | exact dg_get (by omega) (by omega))) ?_
              refine L_wv rfl rfl rfl rfl rfl rfl (V_lenS rfl rfl Try.underlying9 rfl) ?_
              refine L_wv rfl rfl rfl rfl rfl rfl (V_gtr rfl rfl rfl (by first | exact decide_eq_true (by omega) | exact decide_eq_false (by omega) | exact decide_eq_false (fun h => h rfl) | rfl)) ?_
              first | refine L_v rfl rfl rfl (V_pickT rfl rfl rfl) ?_ | refine L_v rfl rfl rfl (V_pickF rfl rfl rfl) ?_
              refine L_v rfl rfl rfl (V_move rfl rfl) ?_
              refine L_wv rfl rfl rfl rfl rfl rfl (V_fieldAddr rfl rfl Try.underlying71 rfl sz69wm rfl) ?_
              refine L_wv rfl rfl rfl rfl rfl rfl (V_fieldAddr rfl rfl Try.underlying69 rfl sz9wm rfl) ?_
              refine L_wv rfl rfl rfl rfl rfl rfl (V_load1 0 rfl rfl rfl Try.underlying9 rfl (by first | rfl | exact dg_get (by omega) (by omega))) ?_
              refine L_wv rfl rfl rfl rfl rfl rfl (V_lenS rfl rfl Try.underlying9 rfl) ?_
              refine L_wv rfl rfl rfl rfl rfl rfl (V_gtr rfl rfl rfl (by first | exact decide_eq_true (by omega) | exact decide_eq_false (by omega) | exact decide_eq_false (fun h => h rfl) | rfl)) ?_
              first | refine L_v rfl rfl rfl (V_pickT rfl rfl rfl) ?_ | refine L_v rfl rfl rfl (V_pickF rfl rfl rfl) ?_
              refine L_v rfl rfl rfl (V_move rfl rfl) ?_
              refine L_wv rfl rfl rfl rfl rfl rfl (V_fieldAddr rfl rfl Try.underlying71 rfl sz49wm rfl) ?_
              refine L_wv rfl rfl rfl rfl rfl rfl (V_fieldAddr rfl rfl Try.underlying49 rfl sz47wm rfl) ?_
              refine L_wv rfl rfl rfl rfl rfl rfl (V_loadT 0 (vs := clV (.slice va x.2.2.2.1.2.2.2.2.1.length ca) (.slice vb x.2.2.2.1.2.2.2.2.2.length cb)) rfl rfl rfl Try.underlying47 rfl sz47wm rfl rfl) ?_
              refine L_wcallV rfl rfl rfl rfl rfl rfl rfl rfl rfl tx18wm (fun w1 hw => big_f va vb _ _ ca cb w1 (by omega)) ?_
              first | refine L_v rfl rfl rfl (V_pickT rfl rfl rfl) ?_ | refine L_v rfl rfl rfl (V_pickF rfl rfl rfl) ?_
              refine L_v rfl rfl rfl (V_move rfl rfl) ?_
              refine L_wv rfl rfl rfl rfl rfl rfl (V_fieldAddr rfl rfl Try.underlying71 rfl sz69wm rfl) ?_
              refine L_wv rfl rfl rfl rfl rfl rfl (V_fieldAddr rfl rfl Try.underlying69 rfl sz47wm rfl) ?_
              refine L_wv rfl rfl rfl rfl rfl rfl (V_loadT 0 (vs := clV (.slice vc x.2.2.2.2.2.1.2.2.1.1.length cc) (.slice vd x.2.2.2.2.2.1.2.2.1.2.length cd)) rfl rfl rfl Try.underlying47 rfl sz47wm rfl rfl) ?_
              refine L_wcallV rfl rfl rfl rfl rfl rfl rfl rfl rfl tx18wm (fun w1 hw => big_f vc vd _ _ cc cd w1 (by omega)) ?_
              first | refine L_v rfl rfl rfl (V_pickT rfl rfl rfl) ?_ | refine L_v rfl rfl rfl (V_pickF rfl rfl rfl) ?_
              refine L_v rfl rfl rfl (V_move rfl rfl) ?_
              refine L_wv rfl rfl rfl rfl rfl rfl (V_loadW 1 rfl rfl rfl Try.underlying60 rfl (szd sz60wm (by kernel_rfl))) ?_
              refine L_wcallV rfl rfl rfl rfl rfl rfl rfl rfl rfl tx24wm (fun w1 hw => bigd_f va1 va2 va3 vc1 vc2 vc3 e0 us hs ss w1 (OkW.fw hw (fun f hf => List.mem_append_right _ hf)) hbd) ?_
              first | refine L_v rfl rfl rfl (V_pickT rfl rfl rfl) ?_ | refine L_v rfl rfl rfl (V_pickF rfl rfl rfl) ?_
              refine L_nil ?_
              change J _ _ _ _
              refine J_false rfl ?_
              rcases hE : encTs (recC.tk x) with k | M
              ·
                have hk0 : k ≠ 0 := by rcases encTs_err hE with h | h <;> omega
                refine J_skip ?_
                change J _ _ _ _
                refine J_seq ?_
                refine J_region ?_
                refine L_v rfl rfl rfl (V_loadW 0 rfl rfl rfl Try.underlying71 rfl (szd sz71wm (by kernel_rfl))) ?_
                refine L_call rfl rfl rfl rfl tx31wm (fun w1 hw => (putrecord_r (.slice va x.2.2.2.1.2.2.2.2.1.length ca) (.slice vb x.2.2.2.1.2.2.2.2.2.length cb) (.slice vc x.2.2.2.2.2.1.2.2.1.1.length cc) (.slice vd x.2.2.2.2.2.1.2.2.1.2.length cd) x w1 (OkW.fw hw (fun f hf => List.mem_append_left _ hf)) (by omega)).mono ?_)
                rw [hE]
                rintro e w' ⟨hfr, rfl⟩
                refine ⟨_, _, _, rfl, hw.fr0 hfr, rfl, ?_⟩
                refine L_v rfl rfl rfl (V_move rfl rfl) ?_
                refine L_v rfl rfl rfl (V_extract rfl rfl rfl) ?_
                refine L_v rfl rfl rfl (V_extract rfl rfl rfl) ?_
                refine L_v rfl rfl rfl (V_assign rfl rfl) ?_
                refine L_v rfl rfl rfl (V_assign rfl rfl) ?_
                refine L_nil ?_
                change J _ _ _ _
                refine J_seq ?_
                refine J_seq ?_
                refine J_region ?_
                refine L_v rfl rfl rfl (V_move rfl rfl) ?_
                refine L_v rfl rfl rfl (V_eql rfl rfl rfl (by first | exact decide_eq_true (by omega) | exact decide_eq_false (by omega) | exact decide_eq_false (fun h => h rfl) | rfl)) ?_
                refine L_nil ?_
                change J _ _ _ _
                refine J_false rfl ?_
                rcases hE : encTs (drC.tk (e0, us.map Prod.fst, hs, ss)) with k | M
                ·
                  have hk0 : k ≠ 0 := by rcases encTs_err hE with h | h <;> omega
                  refine J_skip ?_
                  change J _ _ _ _
                  refine J_seq ?_
                  refine J_le (st' := { env := [(2, .int .u8 z), (3, .pointer (some ⟨b0, 0, none⟩)), (4, .pointer (some ⟨b1, 0, none⟩))], mem := [(b0, row 71 (recV x (.slice va x.2.2.2.1.2.2.2.2.1.length ca) (.slice vb x.2.2.2.1.2.2.2.2.2.length cb) (.slice vc x.2.2.2.2.2.1.2.2.1.1.length cc) (.slice vd x.2.2.2.2.2.1.2.2.1.2.length cd))), (b1, row 60 (drV e0 (.slice va1 us.length vc1) (.slice va2 hs.length vc2) (.slice va3 ss.length vc3)))], facts := (clF (.slice va x.2.2.2.1.2.2.2.2.1.length ca) (.slice vb x.2.2.2.1.2.2.2.2.2.length cb) x.2.2.2.1.2.2.2.2 ++ clF (.slice vc x.2.2.2.2.2.1.2.2.1.1.length cc) (.slice vd x.2.2.2.2.2.1.2.2.1.2.length cd) x.2.2.2.2.2.1.2.2.1) ++ (factC 2 (.slice va1 us.length vc1) us.length (us.map usW).flatten :: factC 65 (.slice va2 hs.length vc2) hs.length (hs.map hdV).flatten :: factC 4 (.slice va3 ss.length vc3) ss.length (ss.map seV).flatten :: us.map usF) }) ⟨⟨rfl, rfl, rfl, trivial⟩, (.cons_cons _ (.cons_cons _ (List.nil_sublist _))), (by first | exact fun f hf => hf | exact fun f hf => List.mem_append_left _ hf), rfl⟩ ?_
                  refine J_region ?_
                  refine L_v rfl rfl rfl (V_loadW 1 rfl rfl rfl Try.underlying60 rfl (szd sz60wm (by kernel_rfl))) ?_
                  refine L_call rfl rfl rfl rfl tx26wm (fun w1 hw => (putdirectory_r va1 va2 va3 vc1 vc2 vc3 e0 us hs ss w1 (OkW.fw hw (fun f hf => List.mem_append_right _ hf)) (by omega)).mono ?_)
                  rw [hE]
                  rintro e w' ⟨hfr, rfl⟩
                  refine ⟨_, _, _, rfl, hw.fr0 hfr, rfl, ?_⟩
                  refine L_v rfl rfl rfl (V_move rfl rfl) ?_
                  refine L_v rfl rfl rfl (V_extract rfl rfl rfl) ?_
                  refine L_v rfl rfl rfl (V_extract rfl rfl rfl) ?_
                  refine L_v rfl rfl rfl (V_assign rfl rfl) ?_
                  refine L_v rfl rfl rfl (V_assign rfl rfl) ?_
                  refine L_nil ?_
                  change J _ _ _ _
                  refine J_seq ?_
                  refine J_seq ?_
                  refine J_region ?_
                  refine L_v rfl rfl rfl (V_move rfl rfl) ?_
                  refine L_v rfl rfl rfl (V_eql rfl rfl rfl (by first | exact decide_eq_true (by omega) | exact decide_eq_false (by omega) | exact decide_eq_false (fun h => h rfl) | rfl)) ?_
                  refine L_nil ?_
                  change J _ _ _ _
                  refine J_false rfl ?_
                  refine J_skip ?_
                  change J _ _ _ _
                  refine J_seq ?_
                  refine J_region ?_
                  refine L_callV rfl rfl rfl rfl rfl rfl tx34wm (fun w1 hw => records_t w1) ?_
                  refine L_v rfl rfl rfl (V_move rfl rfl) ?_
                  refine L_wcallV rfl rfl rfl rfl rfl rfl rfl rfl rfl tx30wm (fun w1 hw => directories_t w1) ?_
                  first | refine L_v rfl rfl rfl (V_pickT rfl rfl rfl) ?_ | refine L_v rfl rfl rfl (V_pickF rfl rfl rfl) ?_
                  refine L_v rfl rfl rfl (V_assign rfl rfl) ?_
                  refine L_nil ?_
                  change J _ _ _ _
                  refine J_ret ?_
                  change Kret _ _ _ Exit.ret _
                  refine ret1 rfl rfl (RV_t rfl) ?_
                  exact fun w' h => ⟨rfl, h.fr⟩
                ·
                  have hML : M.length ≤ 5000000000 := by have h := encTs_len hE; omega
                  have hne : M ≠ [] := enc_ne (show encTs (.c e0 :: _) = .ok M from hE)
                  have hpos : 0 < M.length := List.length_pos_iff.2 hne
                  refine J_skip ?_
                  change J _ _ _ _
                  refine J_seq ?_
                  refine J_le (st' := { env := [(2, .int .u8 z), (3, .pointer (some ⟨b0, 0, none⟩)), (4, .pointer (some ⟨b1, 0, none⟩))], mem := [(b0, row 71 (recV x (.slice va x.2.2.2.1.2.2.2.2.1.length ca) (.slice vb x.2.2.2.1.2.2.2.2.2.length cb) (.slice vc x.2.2.2.2.2.1.2.2.1.1.length cc) (.slice vd x.2.2.2.2.2.1.2.2.1.2.length cd))), (b1, row 60 (drV e0 (.slice va1 us.length vc1) (.slice va2 hs.length vc2) (.slice va3 ss.length vc3)))], facts := (clF (.slice va x.2.2.2.1.2.2.2.2.1.length ca) (.slice vb x.2.2.2.1.2.2.2.2.2.length cb) x.2.2.2.1.2.2.2.2 ++ clF (.slice vc x.2.2.2.2.2.1.2.2.1.1.length cc) (.slice vd x.2.2.2.2.2.1.2.2.1.2.length cd) x.2.2.2.2.2.1.2.2.1) ++ (factC 2 (.slice va1 us.length vc1) us.length (us.map usW).flatten :: factC 65 (.slice va2 hs.length vc2) hs.length (hs.map hdV).flatten :: factC 4 (.slice va3 ss.length vc3) ss.length (ss.map seV).flatten :: us.map usF) }) ⟨⟨rfl, rfl, rfl, trivial⟩, (.cons_cons _ (.cons_cons _ (List.nil_sublist _))), (by first | exact fun f hf => hf | exact fun f hf => List.mem_append_left _ hf), rfl⟩ ?_
                  refine J_region ?_
                  refine L_v rfl rfl rfl (V_loadW 1 rfl rfl rfl Try.underlying60 rfl (szd sz60wm (by kernel_rfl))) ?_
                  refine L_call rfl rfl rfl rfl tx26wm (fun w1 hw => (putdirectory_r va1 va2 va3 vc1 vc2 vc3 e0 us hs ss w1 (OkW.fw hw (fun f hf => List.mem_append_right _ hf)) (by omega)).mono ?_)
                  rw [hE]
                  rintro e w' ⟨hfr, a1, n1, c1, rfl, hs1, hc1, hn1⟩
                  obtain rfl : n1 = M.length := hs1.size.symm
                  have hnw1 : ∀ k, (factB (.slice a1 M.length c1) M).fp k → w.heap.size ≤ k := fun j hk => Nat.le_trans hw.fr.size (hn1 j hk)
                  refine ⟨_, _, _, rfl, OkW.fr0F hw (fs2 := [factR (.slice a1 M.length c1) M]) hfr (fun f hf => by obtain rfl := List.mem_singleton.1 hf; exact ⟨hs1, fun j hk => ⟨hn1 j hk, factB_lt hs1.toB j hk⟩⟩), rfl, ?_⟩
                  refine L_v rfl rfl rfl (V_move rfl rfl) ?_
                  refine L_v rfl rfl rfl (V_extract rfl rfl rfl) ?_
                  refine L_v rfl rfl rfl (V_extract rfl rfl rfl) ?_
                  refine L_v rfl rfl rfl (V_assign rfl rfl) ?_
                  refine L_v rfl rfl rfl (V_assign rfl rfl) ?_
                  refine L_nil ?_
                  change J _ _ _ _
                  refine J_seq ?_
                  refine J_seq ?_
                  refine J_region ?_
                  refine L_v rfl rfl rfl (V_move rfl rfl) ?_
                  refine L_v rfl rfl rfl (V_eql rfl rfl rfl (by first | exact decide_eq_true (by omega) | exact decide_eq_false (by omega) | exact decide_eq_false (fun h => h rfl) | rfl)) ?_
                  refine L_nil ?_
                  change J _ _ _ _
                  refine J_true rfl ?_
                  refine J_seq ?_
                  refine J_seq ?_
                  refine J_region ?_
                  refine L_v rfl rfl rfl (V_move rfl rfl) ?_
                  refine L_v rfl rfl rfl (V_len rfl rfl Try.underlying28 rfl) ?_
                  refine L_v rfl rfl rfl (V_eql rfl rfl rfl (by first | exact decide_eq_true (by omega) | exact decide_eq_false (by omega) | exact decide_eq_false (fun h => h rfl) | rfl)) ?_
                  refine L_nil ?_
                  change J _ _ _ _
                  refine J_false rfl ?_
                  refine J_skip ?_
                  change J _ _ _ _
                  refine J_seq ?_
                  refine J_region ?_
                  refine L_v rfl rfl rfl (V_move rfl rfl) ?_
                  refine L_v rfl rfl rfl (V_move rfl rfl) ?_
                  refine L_v rfl rfl rfl (V_len rfl rfl Try.underlying28 rfl) ?_
                  refine L_v rfl rfl rfl (V_sub rfl rfl rfl (by first | exact Go.IntWalk.i64_in _ (by omega) | rfl)) ?_
                  refine L_v rfl rfl rfl (V_slice0 rfl rfl Try.underlying28 sz5wm (Bd.at (v := M.length - 1) rfl (by omega)) rfl rfl (by first | omega | (simp; omega)) (by first | omega | (simp; omega))) ?_
                  refine L_call rfl rfl rfl rfl tx29wm (fun w1 hw => (getdirectory_w a1 (M.length - 1) c1 (M.take (M.length - 1)) w1 (SlB.take ((hw.facts _ (List.mem_append_right _ (List.mem_singleton.2 rfl))).1.toB) (by omega) _) ((encTs_byt hb2 hE).take _) (by omega) (by rw [List.length_take]; omega)).mono ?_)
                  rw [getW_less drC (encTs_byt hb2 hE) hE hne]
                  rintro e w' ⟨hfr, rfl⟩
                  refine ⟨_, _, _, rfl, hw.fr0 hfr, rfl, ?_⟩
                  refine L_v rfl rfl rfl (V_move rfl rfl) ?_
                  refine L_v rfl rfl rfl (V_extract rfl rfl rfl) ?_
                  refine L_v rfl rfl rfl (V_extract rfl rfl rfl) ?_
                  refine L_alloc rfl rfl rfl rfl z60wm (fun b2 => ?_)
                  refine L_storeW 2 rfl rfl rfl rfl rfl rfl (szd sz60wm (by kernel_rfl)) (all_one (by kernel_rfl)) (by kernel_rfl) ?_
                  refine L_v rfl rfl rfl (V_assign rfl rfl) ?_
                  refine L_nil ?_
                  change J _ _ _ _
                  refine J_seq ?_
                  refine J_toOwn ((clF (.slice va x.2.2.2.1.2.2.2.2.1.length ca) (.slice vb x.2.2.2.1.2.2.2.2.2.length cb) x.2.2.2.1.2.2.2.2 ++ clF (.slice vc x.2.2.2.2.2.1.2.2.1.1.length cc) (.slice vd x.2.2.2.2.2.1.2.2.1.2.length cd) x.2.2.2.2.2.1.2.2.1) ++ (factC 2 (.slice va1 us.length vc1) us.length (us.map usW).flatten :: factC 65 (.slice va2 hs.length vc2) hs.length (hs.map hdV).flatten :: factC 4 (.slice va3 ss.length vc3) ss.length (ss.map seV).flatten :: us.map usF)) (List.mem_append_right _ (List.mem_singleton.2 rfl)) hne hnw1 (fun f hf => List.mem_append_left _ hf) (fun f hf k hk => (hs0 f hf).2 k hk) (fun g c' r hge hr hcr => ?_)
                  obtain ⟨rfl, _, rfl⟩ := Value.slice.inj hge
                  refine J_le (st' := { env := [(2, .int .u8 z), (3, .pointer (some ⟨b0, 0, none⟩)), (4, .pointer (some ⟨b1, 0, none⟩)), (7, .slice (some ⟨g, 0, none⟩) M.length c1), (14, .int .i64 60)], mem := [(b0, row 71 (recV x (.slice va x.2.2.2.1.2.2.2.2.1.length ca) (.slice vb x.2.2.2.1.2.2.2.2.2.length cb) (.slice vc x.2.2.2.2.2.1.2.2.1.1.length cc) (.slice vd x.2.2.2.2.2.1.2.2.1.2.length cd))), (b1, row 60 (drV e0 (.slice va1 us.length vc1) (.slice va2 hs.length vc2) (.slice va3 ss.length vc3))), (b2, row 60 (drV 0 nilB nilB nilB))] ++ [(g, row 5 (dg M ++ r))], facts := (clF (.slice va x.2.2.2.1.2.2.2.2.1.length ca) (.slice vb x.2.2.2.1.2.2.2.2.2.length cb) x.2.2.2.1.2.2.2.2 ++ clF (.slice vc x.2.2.2.2.2.1.2.2.1.1.length cc) (.slice vd x.2.2.2.2.2.1.2.2.1.2.length cd) x.2.2.2.2.2.1.2.2.1) ++ (factC 2 (.slice va1 us.length vc1) us.length (us.map usW).flatten :: factC 65 (.slice va2 hs.length vc2) hs.length (hs.map hdV).flatten :: factC 4 (.slice va3 ss.length vc3) ss.length (ss.map seV).flatten :: us.map usF) }) ⟨⟨rfl, rfl, rfl, rfl, rfl, trivial⟩, List.Sublist.refl _, fun f hf => hf, rfl⟩ ?_
                  refine J_region ?_
                  refine L_v rfl rfl rfl (V_move rfl rfl) ?_
                  refine L_v rfl rfl rfl (V_move rfl rfl) ?_
                  refine L_bs1 rfl rfl rfl rfl rfl Try.underlying28 bz5wm rfl rfl (fun b9 => ?_)
                  refine L_appN [(b0, row 71 (recV x (.slice va x.2.2.2.1.2.2.2.2.1.length ca) (.slice vb x.2.2.2.1.2.2.2.2.2.length cb) (.slice vc x.2.2.2.2.2.1.2.2.1.1.length cc) (.slice vd x.2.2.2.2.2.1.2.2.1.2.length cd))), (b1, row 60 (drV e0 (.slice va1 us.length vc1) (.slice va2 hs.length vc2) (.slice va3 ss.length vc3))), (b2, row 60 (drV 0 nilB nilB nilB))] [(b9, row 5 [.int .u8 z])] (some (g, c1, r)) (dg M) (m := 1) (news := [.int .u8 z]) (n' := M.length + 1) (ks' := dg (M ++ [z])) rfl rfl rfl rfl rfl Try.underlying28 elr rfl ⟨by rw [dg_length, Nat.mul_one], hc1, by rw [Nat.mul_one]; exact hr⟩ (fun w1 hw => src_C Try.underlying28 (SlC.in hw (ks := [.int .u8 z]) (r := []) (fz := (0, 0)) (List.mem_append_right _ (List.mem_singleton.2 rfl)) rfl 1) (all_one (by kernel_rfl))) rfl (dg_app1 M z) (by omega) (by omega) (fun q2 hq2 => ?_)
                  refine L_v rfl rfl rfl (V_assign rfl rfl) ?_
                  refine L_nil ?_
                  change J _ _ _ _
                  refine J_seq ?_
                  refine J_region ?_
                  refine L_v rfl rfl rfl (V_move rfl rfl) ?_
                  refine L_call rfl rfl rfl rfl tx29wm (fun w1 hw => (getdirectory_w _ _ _ (M ++ [z]) w1 (own_sl5 (m1 := [(b0, row 71 (recV x (.slice va x.2.2.2.1.2.2.2.2.1.length ca) (.slice vb x.2.2.2.1.2.2.2.2.2.length cb) (.slice vc x.2.2.2.2.2.1.2.2.1.1.length cc) (.slice vd x.2.2.2.2.2.1.2.2.1.2.length cd))), (b1, row 60 (drV e0 (.slice va1 us.length vc1) (.slice va2 hs.length vc2) (.slice va3 ss.length vc3))), (b2, row 60 (drV 0 nilB nilB nilB))]) (m2 := [(b9, row 5 [.int .u8 z])]) hw hq2) ((encTs_byt hb2 hE).append (fun y hy => by rw [List.mem_singleton.1 hy]; exact hz)) hq2.le (by rw [List.length_append, List.length_singleton]; omega)).mono ?_)
                  rw [getW_more drC hE z]
                  rintro e w' ⟨hfr, rfl⟩
                  refine ⟨_, _, _, rfl, hw.fr0 hfr, rfl, ?_⟩
                  refine L_v rfl rfl rfl (V_move rfl rfl) ?_
                  refine L_v rfl rfl rfl (V_extract rfl rfl rfl) ?_
                  refine L_v rfl rfl rfl (V_extract rfl rfl rfl) ?_
                  refine L_alloc rfl rfl rfl rfl z60wm (fun b3 => ?_)
                  refine L_pk ([(b0, row 71 (recV x (.slice va x.2.2.2.1.2.2.2.2.1.length ca) (.slice vb x.2.2.2.1.2.2.2.2.2.length cb) (.slice vc x.2.2.2.2.2.1.2.2.1.1.length cc) (.slice vd x.2.2.2.2.2.1.2.2.1.2.length cd))), (b1, row 60 (drV e0 (.slice va1 us.length vc1) (.slice va2 hs.length vc2) (.slice va3 ss.length vc3))), (b3, row 60 (drV 0 nilB nilB nilB))]) (Pk.of_sub (List.Sublist.cons_cons _ (List.Sublist.cons_cons _ (List.sublist_append_right _ _)))) ?_
                  refine L_storeW 2 rfl rfl rfl rfl rfl rfl (szd sz60wm (by kernel_rfl)) (all_one (by kernel_rfl)) (by kernel_rfl) ?_
                  refine L_v rfl rfl rfl (V_assign rfl rfl) ?_
                  refine L_nil ?_
                  change J _ _ _ _
                  refine J_seq ?_
                  refine J_region ?_
                  refine L_v rfl rfl rfl (V_move rfl rfl) ?_
                  refine L_v rfl rfl rfl (V_neq rfl rfl rfl (by first | exact decide_eq_true (by omega) | exact decide_eq_false (by omega) | exact decide_eq_false (fun h => h rfl) | rfl)) ?_
                  refine L_v rfl rfl rfl (V_move rfl rfl) ?_
                  refine L_wv rfl rfl rfl rfl rfl rfl (V_move rfl rfl) ?_
                  refine L_wv rfl rfl rfl rfl rfl rfl (V_neq rfl rfl rfl (by first | exact decide_eq_true (by omega) | exact decide_eq_false (by omega) | exact decide_eq_false (fun h => h rfl) | rfl)) ?_
                  first | refine L_v rfl rfl rfl (V_pickT rfl rfl rfl) ?_ | refine L_v rfl rfl rfl (V_pickF rfl rfl rfl) ?_
                  refine L_nil ?_
                  change J _ _ _ _
                  refine J_false rfl ?_
                  refine J_skip ?_
                  change J _ _ _ _
                  refine J_seq ?_
                  refine J_region ?_
                  refine L_callV rfl rfl rfl rfl rfl rfl tx34wm (fun w1 hw => records_t w1) ?_
                  refine L_v rfl rfl rfl (V_move rfl rfl) ?_
                  refine L_wcallV rfl rfl rfl rfl rfl rfl rfl rfl rfl tx30wm (fun w1 hw => directories_t w1) ?_
                  first | refine L_v rfl rfl rfl (V_pickT rfl rfl rfl) ?_ | refine L_v rfl rfl rfl (V_pickF rfl rfl rfl) ?_
                  refine L_v rfl rfl rfl (V_assign rfl rfl) ?_
                  refine L_nil ?_
                  change J _ _ _ _
                  refine J_ret ?_
                  change Kret _ _ _ Exit.ret _
                  refine ret1 rfl rfl (RV_t rfl) ?_
                  exact fun w' h => ⟨rfl, h.fr⟩
              ·
                have hML : M.length ≤ 5000000000 := by have h := encTs_len hE; omega
                have hne : M ≠ [] := enc_ne (show encTs (.c x.1 :: _) = .ok M from hE)
                have hpos : 0 < M.length := List.length_pos_iff.2 hne
                refine J_skip ?_
                change J _ _ _ _
                refine J_seq ?_
                refine J_region ?_
                refine L_v rfl rfl rfl (V_loadW 0 rfl rfl rfl Try.underlying71 rfl (szd sz71wm (by kernel_rfl))) ?_
                refine L_call rfl rfl rfl rfl tx31wm (fun w1 hw => (putrecord_r (.slice va x.2.2.2.1.2.2.2.2.1.length ca) (.slice vb x.2.2.2.1.2.2.2.2.2.length cb) (.slice vc x.2.2.2.2.2.1.2.2.1.1.length cc) (.slice vd x.2.2.2.2.2.1.2.2.1.2.length cd) x w1 (OkW.fw hw (fun f hf => List.mem_append_left _ hf)) (by omega)).mono ?_)
                rw [hE]
                rintro e w' ⟨hfr, a1, n1, c1, rfl, hs1, hc1, hn1⟩
                obtain rfl : n1 = M.length := hs1.size.symm
                have hnw1 : ∀ k, (factB (.slice a1 M.length c1) M).fp k → w.heap.size ≤ k := fun j hk => Nat.le_trans hw.fr.size (hn1 j hk)
                refine ⟨_, _, _, rfl, OkW.fr0F hw (fs2 := [factR (.slice a1 M.length c1) M]) hfr (fun f hf => by obtain rfl := List.mem_singleton.1 hf; exact ⟨hs1, fun j hk => ⟨hn1 j hk, factB_lt hs1.toB j hk⟩⟩), rfl, ?_⟩
                refine L_v rfl rfl rfl (V_move rfl rfl) ?_
                refine L_v rfl rfl rfl (V_extract rfl rfl rfl) ?_
                refine L_v rfl rfl rfl (V_extract rfl rfl rfl) ?_
                refine L_v rfl rfl rfl (V_assign rfl rfl) ?_
                refine L_v rfl rfl rfl (V_assign rfl rfl) ?_
                refine L_nil ?_
                change J _ _ _ _
                refine J_seq ?_
                refine J_seq ?_
                refine J_region ?_
                refine L_v rfl rfl rfl (V_move rfl rfl) ?_
                refine L_v rfl rfl rfl (V_eql rfl rfl rfl (by first | exact decide_eq_true (by omega) | exact decide_eq_false (by omega) | exact decide_eq_false (fun h => h rfl) | rfl)) ?_
                refine L_nil ?_
                change J _ _ _ _
                refine J_true rfl ?_
                refine J_seq ?_
                refine J_seq ?_
                refine J_region ?_
                refine L_v rfl rfl rfl (V_move rfl rfl) ?_
                refine L_v rfl rfl rfl (V_len rfl rfl Try.underlying28 rfl) ?_
                refine L_v rfl rfl rfl (V_eql rfl rfl rfl (by first | exact decide_eq_true (by omega) | exact decide_eq_false (by omega) | exact decide_eq_false (fun h => h rfl) | rfl)) ?_
                refine L_nil ?_
                change J _ _ _ _
                refine J_false rfl ?_
                refine J_skip ?_
                change J _ _ _ _
                refine J_seq ?_
                refine J_region ?_
                refine L_v rfl rfl rfl (V_move rfl rfl) ?_
                refine L_v rfl rfl rfl (V_move rfl rfl) ?_
                refine L_v rfl rfl rfl (V_len rfl rfl Try.underlying28 rfl) ?_
                refine L_v rfl rfl rfl (V_sub rfl rfl rfl (by first | exact Go.IntWalk.i64_in _ (by omega) | rfl)) ?_
                refine L_v rfl rfl rfl (V_slice0 rfl rfl Try.underlying28 sz5wm (Bd.at (v := M.length - 1) rfl (by omega)) rfl rfl (by first | omega | (simp; omega)) (by first | omega | (simp; omega))) ?_
                refine L_call rfl rfl rfl rfl tx33wm (fun w1 hw => (getrecord_w a1 (M.length - 1) c1 (M.take (M.length - 1)) w1 (SlB.take ((hw.facts _ (List.mem_append_right _ (List.mem_singleton.2 rfl))).1.toB) (by omega) _) ((encTs_byt hb hE).take _) (by omega) (by rw [List.length_take]; omega)).mono ?_)
                rw [getW_less recC (encTs_byt hb hE) hE hne]
                rintro e w' ⟨hfr, rfl⟩
                refine ⟨_, _, _, rfl, hw.fr0 hfr, rfl, ?_⟩
                refine L_v rfl rfl rfl (V_move rfl rfl) ?_
                refine L_v rfl rfl rfl (V_extract rfl rfl rfl) ?_
                refine L_v rfl rfl rfl (V_extract rfl rfl rfl) ?_
                refine L_alloc rfl rfl rfl rfl z71wm (fun b2 => ?_)
                refine L_storeW 2 rfl rfl rfl rfl rfl rfl (szd sz71wm (by kernel_rfl)) (all_one (by kernel_rfl)) (by kernel_rfl) ?_
                refine L_v rfl rfl rfl (V_assign rfl rfl) ?_
                refine L_nil ?_
                change J _ _ _ _
                refine J_seq ?_
                refine J_toOwn ((clF (.slice va x.2.2.2.1.2.2.2.2.1.length ca) (.slice vb x.2.2.2.1.2.2.2.2.2.length cb) x.2.2.2.1.2.2.2.2 ++ clF (.slice vc x.2.2.2.2.2.1.2.2.1.1.length cc) (.slice vd x.2.2.2.2.2.1.2.2.1.2.length cd) x.2.2.2.2.2.1.2.2.1) ++ (factC 2 (.slice va1 us.length vc1) us.length (us.map usW).flatten :: factC 65 (.slice va2 hs.length vc2) hs.length (hs.map hdV).flatten :: factC 4 (.slice va3 ss.length vc3) ss.length (ss.map seV).flatten :: us.map usF)) (List.mem_append_right _ (List.mem_singleton.2 rfl)) hne hnw1 (fun f hf => List.mem_append_left _ hf) (fun f hf k hk => (hs0 f hf).2 k hk) (fun g c' r hge hr hcr => ?_)
                obtain ⟨rfl, _, rfl⟩ := Value.slice.inj hge
                refine J_le (st' := { env := [(2, .int .u8 z), (3, .pointer (some ⟨b0, 0, none⟩)), (4, .pointer (some ⟨b1, 0, none⟩)), (7, .slice (some ⟨g, 0, none⟩) M.length c1), (10, .int .i64 60)], mem := [(b0, row 71 (recV x (.slice va x.2.2.2.1.2.2.2.2.1.length ca) (.slice vb x.2.2.2.1.2.2.2.2.2.length cb) (.slice vc x.2.2.2.2.2.1.2.2.1.1.length cc) (.slice vd x.2.2.2.2.2.1.2.2.1.2.length cd))), (b1, row 60 (drV e0 (.slice va1 us.length vc1) (.slice va2 hs.length vc2) (.slice va3 ss.length vc3))), (b2, row 71 (recV (0, 0, 0, (0, 0, 0, (0, 0, 0, ⟨#[]⟩, ⟨#[]⟩, 0, dz), ([], [])), 0, (0, 0, ([], []), ⟨#[]⟩), ((0, dz, dz), dz)) nilB nilB nilB nilB))] ++ [(g, row 5 (dg M ++ r))], facts := (clF (.slice va x.2.2.2.1.2.2.2.2.1.length ca) (.slice vb x.2.2.2.1.2.2.2.2.2.length cb) x.2.2.2.1.2.2.2.2 ++ clF (.slice vc x.2.2.2.2.2.1.2.2.1.1.length cc) (.slice vd x.2.2.2.2.2.1.2.2.1.2.length cd) x.2.2.2.2.2.1.2.2.1) ++ (factC 2 (.slice va1 us.length vc1) us.length (us.map usW).flatten :: factC 65 (.slice va2 hs.length vc2) hs.length (hs.map hdV).flatten :: factC 4 (.slice va3 ss.length vc3) ss.length (ss.map seV).flatten :: us.map usF) }) ⟨⟨rfl, rfl, rfl, rfl, rfl, trivial⟩, List.Sublist.refl _, fun f hf => hf, rfl⟩ ?_
                refine J_region ?_
                refine L_v rfl rfl rfl (V_move rfl rfl) ?_
                refine L_v rfl rfl rfl (V_move rfl rfl) ?_
                refine L_bs1 rfl rfl rfl rfl rfl Try.underlying28 bz5wm rfl rfl (fun b9 => ?_)
                refine L_appN [(b0, row 71 (recV x (.slice va x.2.2.2.1.2.2.2.2.1.length ca) (.slice vb x.2.2.2.1.2.2.2.2.2.length cb) (.slice vc x.2.2.2.2.2.1.2.2.1.1.length cc) (.slice vd x.2.2.2.2.2.1.2.2.1.2.length cd))), (b1, row 60 (drV e0 (.slice va1 us.length vc1) (.slice va2 hs.length vc2) (.slice va3 ss.length vc3))), (b2, row 71 (recV (0, 0, 0, (0, 0, 0, (0, 0, 0, ⟨#[]⟩, ⟨#[]⟩, 0, dz), ([], [])), 0, (0, 0, ([], []), ⟨#[]⟩), ((0, dz, dz), dz)) nilB nilB nilB nilB))] [(b9, row 5 [.int .u8 z])] (some (g, c1, r)) (dg M) (m := 1) (news := [.int .u8 z]) (n' := M.length + 1) (ks' := dg (M ++ [z])) rfl rfl rfl rfl rfl Try.underlying28 elr rfl ⟨by rw [dg_length, Nat.mul_one], hc1, by rw [Nat.mul_one]; exact hr⟩ (fun w1 hw => src_C Try.underlying28 (SlC.in hw (ks := [.int .u8 z]) (r := []) (fz := (0, 0)) (List.mem_append_right _ (List.mem_singleton.2 rfl)) rfl 1) (all_one (by kernel_rfl))) rfl (dg_app1 M z) (by omega) (by omega) (fun q2 hq2 => ?_)
                refine L_v rfl rfl rfl (V_assign rfl rfl) ?_
                refine L_nil ?_
                change J _ _ _ _
                refine J_seq ?_
                refine J_region ?_
                refine L_v rfl rfl rfl (V_move rfl rfl) ?_
                refine L_call rfl rfl rfl rfl tx33wm (fun w1 hw => (getrecord_w _ _ _ (M ++ [z]) w1 (own_sl5 (m1 := [(b0, row 71 (recV x (.slice va x.2.2.2.1.2.2.2.2.1.length ca) (.slice vb x.2.2.2.1.2.2.2.2.2.length cb) (.slice vc x.2.2.2.2.2.1.2.2.1.1.length cc) (.slice vd x.2.2.2.2.2.1.2.2.1.2.length cd))), (b1, row 60 (drV e0 (.slice va1 us.length vc1) (.slice va2 hs.length vc2) (.slice va3 ss.length vc3))), (b2, row 71 (recV (0, 0, 0, (0, 0, 0, (0, 0, 0, ⟨#[]⟩, ⟨#[]⟩, 0, dz), ([], [])), 0, (0, 0, ([], []), ⟨#[]⟩), ((0, dz, dz), dz)) nilB nilB nilB nilB))]) (m2 := [(b9, row 5 [.int .u8 z])]) hw hq2) ((encTs_byt hb hE).append (fun y hy => by rw [List.mem_singleton.1 hy]; exact hz)) hq2.le (by rw [List.length_append, List.length_singleton]; omega)).mono ?_)
                rw [getW_more recC hE z]
                rintro e w' ⟨hfr, rfl⟩
                refine ⟨_, _, _, rfl, hw.fr0 hfr, rfl, ?_⟩
                refine L_v rfl rfl rfl (V_move rfl rfl) ?_
                refine L_v rfl rfl rfl (V_extract rfl rfl rfl) ?_
                refine L_v rfl rfl rfl (V_extract rfl rfl rfl) ?_
                refine L_alloc rfl rfl rfl rfl z71wm (fun b3 => ?_)
                refine L_pk ([(b0, row 71 (recV x (.slice va x.2.2.2.1.2.2.2.2.1.length ca) (.slice vb x.2.2.2.1.2.2.2.2.2.length cb) (.slice vc x.2.2.2.2.2.1.2.2.1.1.length cc) (.slice vd x.2.2.2.2.2.1.2.2.1.2.length cd))), (b1, row 60 (drV e0 (.slice va1 us.length vc1) (.slice va2 hs.length vc2) (.slice va3 ss.length vc3))), (b3, row 71 (recV (0, 0, 0, (0, 0, 0, (0, 0, 0, ⟨#[]⟩, ⟨#[]⟩, 0, dz), ([], [])), 0, (0, 0, ([], []), ⟨#[]⟩), ((0, dz, dz), dz)) nilB nilB nilB nilB))]) (Pk.of_sub (List.Sublist.cons_cons _ (List.Sublist.cons_cons _ (List.sublist_append_right _ _)))) ?_
                refine L_storeW 2 rfl rfl rfl rfl rfl rfl (szd sz71wm (by kernel_rfl)) (all_one (by kernel_rfl)) (by kernel_rfl) ?_
                refine L_v rfl rfl rfl (V_assign rfl rfl) ?_
                refine L_nil ?_
                change J _ _ _ _
                refine J_seq ?_
                refine J_region ?_
                refine L_v rfl rfl rfl (V_move rfl rfl) ?_
                refine L_v rfl rfl rfl (V_neq rfl rfl rfl (by first | exact decide_eq_true (by omega) | exact decide_eq_false (by omega) | exact decide_eq_false (fun h => h rfl) | rfl)) ?_
                refine L_v rfl rfl rfl (V_move rfl rfl) ?_
                refine L_wv rfl rfl rfl rfl rfl rfl (V_move rfl rfl) ?_
                refine L_wv rfl rfl rfl rfl rfl rfl (V_neq rfl rfl rfl (by first | exact decide_eq_true (by omega) | exact decide_eq_false (by omega) | exact decide_eq_false (fun h => h rfl) | rfl)) ?_
                first | refine L_v rfl rfl rfl (V_pickT rfl rfl rfl) ?_ | refine L_v rfl rfl rfl (V_pickF rfl rfl rfl) ?_
                refine L_nil ?_
                change J _ _ _ _
                refine J_false rfl ?_
                rcases hE : encTs (drC.tk (e0, us.map Prod.fst, hs, ss)) with k | M
                ·
                  have hk0 : k ≠ 0 := by rcases encTs_err hE with h | h <;> omega
                  refine J_skip ?_
                  change J _ _ _ _
                  refine J_seq ?_
                  refine J_le (st' := { env := [(2, .int .u8 z), (3, .pointer (some ⟨b0, 0, none⟩)), (4, .pointer (some ⟨b1, 0, none⟩))], mem := [(b0, row 71 (recV x (.slice va x.2.2.2.1.2.2.2.2.1.length ca) (.slice vb x.2.2.2.1.2.2.2.2.2.length cb) (.slice vc x.2.2.2.2.2.1.2.2.1.1.length cc) (.slice vd x.2.2.2.2.2.1.2.2.1.2.length cd))), (b1, row 60 (drV e0 (.slice va1 us.length vc1) (.slice va2 hs.length vc2) (.slice va3 ss.length vc3)))], facts := (clF (.slice va x.2.2.2.1.2.2.2.2.1.length ca) (.slice vb x.2.2.2.1.2.2.2.2.2.length cb) x.2.2.2.1.2.2.2.2 ++ clF (.slice vc x.2.2.2.2.2.1.2.2.1.1.length cc) (.slice vd x.2.2.2.2.2.1.2.2.1.2.length cd) x.2.2.2.2.2.1.2.2.1) ++ (factC 2 (.slice va1 us.length vc1) us.length (us.map usW).flatten :: factC 65 (.slice va2 hs.length vc2) hs.length (hs.map hdV).flatten :: factC 4 (.slice va3 ss.length vc3) ss.length (ss.map seV).flatten :: us.map usF) }) ⟨⟨rfl, rfl, rfl, trivial⟩, (.cons_cons _ (.cons_cons _ (List.nil_sublist _))), (by first | exact fun f hf => hf | exact fun f hf => List.mem_append_left _ hf), rfl⟩ ?_
                  refine J_region ?_
                  refine L_v rfl rfl rfl (V_loadW 1 rfl rfl rfl Try.underlying60 rfl (szd sz60wm (by kernel_rfl))) ?_
                  refine L_call rfl rfl rfl rfl tx26wm (fun w1 hw => (putdirectory_r va1 va2 va3 vc1 vc2 vc3 e0 us hs ss w1 (OkW.fw hw (fun f hf => List.mem_append_right _ hf)) (by omega)).mono ?_)
                  rw [hE]
                  rintro e w' ⟨hfr, rfl⟩
                  refine ⟨_, _, _, rfl, hw.fr0 hfr, rfl, ?_⟩
                  refine L_v rfl rfl rfl (V_move rfl rfl) ?_
                  refine L_v rfl rfl rfl (V_extract rfl rfl rfl) ?_
                  refine L_v rfl rfl rfl (V_extract rfl rfl rfl) ?_
                  refine L_v rfl rfl rfl (V_assign rfl rfl) ?_
                  refine L_v rfl rfl rfl (V_assign rfl rfl) ?_
                  refine L_nil ?_
                  change J _ _ _ _
                  refine J_seq ?_
                  refine J_seq ?_
                  refine J_region ?_
                  refine L_v rfl rfl rfl (V_move rfl rfl) ?_
                  refine L_v rfl rfl rfl (V_eql rfl rfl rfl (by first | exact decide_eq_true (by omega) | exact decide_eq_false (by omega) | exact decide_eq_false (fun h => h rfl) | rfl)) ?_
                  refine L_nil ?_
                  change J _ _ _ _
                  refine J_false rfl ?_
                  refine J_skip ?_
                  change J _ _ _ _
                  refine J_seq ?_
                  refine J_region ?_
                  refine L_callV rfl rfl rfl rfl rfl rfl tx34wm (fun w1 hw => records_t w1) ?_
                  refine L_v rfl rfl rfl (V_move rfl rfl) ?_
                  refine L_wcallV rfl rfl rfl rfl rfl rfl rfl rfl rfl tx30wm (fun w1 hw => directories_t w1) ?_
                  first | refine L_v rfl rfl rfl (V_pickT rfl rfl rfl) ?_ | refine L_v rfl rfl rfl (V_pickF rfl rfl rfl) ?_
                  refine L_v rfl rfl rfl (V_assign rfl rfl) ?_
                  refine L_nil ?_
                  change J _ _ _ _
                  refine J_ret ?_
                  change Kret _ _ _ Exit.ret _
                  refine ret1 rfl rfl (RV_t rfl) ?_
                  exact fun w' h => ⟨rfl, h.fr⟩
                ·
                  have hML : M.length ≤ 5000000000 := by have h := encTs_len hE; omega
                  have hne : M ≠ [] := enc_ne (show encTs (.c e0 :: _) = .ok M from hE)
                  have hpos : 0 < M.length := List.length_pos_iff.2 hne
                  refine J_skip ?_
                  change J _ _ _ _
                  refine J_seq ?_
                  refine J_le (st' := { env := [(2, .int .u8 z), (3, .pointer (some ⟨b0, 0, none⟩)), (4, .pointer (some ⟨b1, 0, none⟩))], mem := [(b0, row 71 (recV x (.slice va x.2.2.2.1.2.2.2.2.1.length ca) (.slice vb x.2.2.2.1.2.2.2.2.2.length cb) (.slice vc x.2.2.2.2.2.1.2.2.1.1.length cc) (.slice vd x.2.2.2.2.2.1.2.2.1.2.length cd))), (b1, row 60 (drV e0 (.slice va1 us.length vc1) (.slice va2 hs.length vc2) (.slice va3 ss.length vc3)))], facts := (clF (.slice va x.2.2.2.1.2.2.2.2.1.length ca) (.slice vb x.2.2.2.1.2.2.2.2.2.length cb) x.2.2.2.1.2.2.2.2 ++ clF (.slice vc x.2.2.2.2.2.1.2.2.1.1.length cc) (.slice vd x.2.2.2.2.2.1.2.2.1.2.length cd) x.2.2.2.2.2.1.2.2.1) ++ (factC 2 (.slice va1 us.length vc1) us.length (us.map usW).flatten :: factC 65 (.slice va2 hs.length vc2) hs.length (hs.map hdV).flatten :: factC 4 (.slice va3 ss.length vc3) ss.length (ss.map seV).flatten :: us.map usF) }) ⟨⟨rfl, rfl, rfl, trivial⟩, (.cons_cons _ (.cons_cons _ (List.nil_sublist _))), (by first | exact fun f hf => hf | exact fun f hf => List.mem_append_left _ hf), rfl⟩ ?_
                  refine J_region ?_
                  refine L_v rfl rfl rfl (V_loadW 1 rfl rfl rfl Try.underlying60 rfl (szd sz60wm (by kernel_rfl))) ?_
                  refine L_call rfl rfl rfl rfl tx26wm (fun w1 hw => (putdirectory_r va1 va2 va3 vc1 vc2 vc3 e0 us hs ss w1 (OkW.fw hw (fun f hf => List.mem_append_right _ hf)) (by omega)).mono ?_)
                  rw [hE]
                  rintro e w' ⟨hfr, a1, n1, c1, rfl, hs1, hc1, hn1⟩
                  obtain rfl : n1 = M.length := hs1.size.symm
                  have hnw1 : ∀ k, (factB (.slice a1 M.length c1) M).fp k → w.heap.size ≤ k := fun j hk => Nat.le_trans hw.fr.size (hn1 j hk)
                  refine ⟨_, _, _, rfl, OkW.fr0F hw (fs2 := [factR (.slice a1 M.length c1) M]) hfr (fun f hf => by obtain rfl := List.mem_singleton.1 hf; exact ⟨hs1, fun j hk => ⟨hn1 j hk, factB_lt hs1.toB j hk⟩⟩), rfl, ?_⟩
                  refine L_v rfl rfl rfl (V_move rfl rfl) ?_
                  refine L_v rfl rfl rfl (V_extract rfl rfl rfl) ?_
                  refine L_v rfl rfl rfl (V_extract rfl rfl rfl) ?_
                  refine L_v rfl rfl rfl (V_assign rfl rfl) ?_
                  refine L_v rfl rfl rfl (V_assign rfl rfl) ?_
                  refine L_nil ?_
                  change J _ _ _ _
                  refine J_seq ?_
                  refine J_seq ?_
                  refine J_region ?_
                  refine L_v rfl rfl rfl (V_move rfl rfl) ?_
                  refine L_v rfl rfl rfl (V_eql rfl rfl rfl (by first | exact decide_eq_true (by omega) | exact decide_eq_false (by omega) | exact decide_eq_false (fun h => h rfl) | rfl)) ?_
                  refine L_nil ?_
                  change J _ _ _ _
                  refine J_true rfl ?_
                  refine J_seq ?_
                  refine J_seq ?_
                  refine J_region ?_
                  refine L_v rfl rfl rfl (V_move rfl rfl) ?_
                  refine L_v rfl rfl rfl (V_len rfl rfl Try.underlying28 rfl) ?_
                  refine L_v rfl rfl rfl (V_eql rfl rfl rfl (by first | exact decide_eq_true (by omega) | exact decide_eq_false (by omega) | exact decide_eq_false (fun h => h rfl) | rfl)) ?_
                  refine L_nil ?_
                  change J _ _ _ _
                  refine J_false rfl ?_
                  refine J_skip ?_
                  change J _ _ _ _
                  refine J_seq ?_
                  refine J_region ?_
                  refine L_v rfl rfl rfl (V_move rfl rfl) ?_
                  refine L_v rfl rfl rfl (V_move rfl rfl) ?_
                  refine L_v rfl rfl rfl (V_len rfl rfl Try.underlying28 rfl) ?_
                  refine L_v rfl rfl rfl (V_sub rfl rfl rfl (by first | exact Go.IntWalk.i64_in _ (by omega) | rfl)) ?_
                  refine L_v rfl rfl rfl (V_slice0 rfl rfl Try.underlying28 sz5wm (Bd.at (v := M.length - 1) rfl (by omega)) rfl rfl (by first | omega | (simp; omega)) (by first | omega | (simp; omega))) ?_
                  refine L_call rfl rfl rfl rfl tx29wm (fun w1 hw => (getdirectory_w a1 (M.length - 1) c1 (M.take (M.length - 1)) w1 (SlB.take ((hw.facts _ (List.mem_append_right _ (List.mem_singleton.2 rfl))).1.toB) (by omega) _) ((encTs_byt hb2 hE).take _) (by omega) (by rw [List.length_take]; omega)).mono ?_)
                  rw [getW_less drC (encTs_byt hb2 hE) hE hne]
                  rintro e w' ⟨hfr, rfl⟩
                  refine ⟨_, _, _, rfl, hw.fr0 hfr, rfl, ?_⟩
                  refine L_v rfl rfl rfl (V_move rfl rfl) ?_
                  refine L_v rfl rfl rfl (V_extract rfl rfl rfl) ?_
                  refine L_v rfl rfl rfl (V_extract rfl rfl rfl) ?_
                  refine L_alloc rfl rfl rfl rfl z60wm (fun b2 => ?_)
                  refine L_storeW 2 rfl rfl rfl rfl rfl rfl (szd sz60wm (by kernel_rfl)) (all_one (by kernel_rfl)) (by kernel_rfl) ?_
                  refine L_v rfl rfl rfl (V_assign rfl rfl) ?_
                  refine L_nil ?_
                  change J _ _ _ _
                  refine J_seq ?_
                  refine J_toOwn ((clF (.slice va x.2.2.2.1.2.2.2.2.1.length ca) (.slice vb x.2.2.2.1.2.2.2.2.2.length cb) x.2.2.2.1.2.2.2.2 ++ clF (.slice vc x.2.2.2.2.2.1.2.2.1.1.length cc) (.slice vd x.2.2.2.2.2.1.2.2.1.2.length cd) x.2.2.2.2.2.1.2.2.1) ++ (factC 2 (.slice va1 us.length vc1) us.length (us.map usW).flatten :: factC 65 (.slice va2 hs.length vc2) hs.length (hs.map hdV).flatten :: factC 4 (.slice va3 ss.length vc3) ss.length (ss.map seV).flatten :: us.map usF)) (List.mem_append_right _ (List.mem_singleton.2 rfl)) hne hnw1 (fun f hf => List.mem_append_left _ hf) (fun f hf k hk => (hs0 f hf).2 k hk) (fun g c' r hge hr hcr => ?_)
                  obtain ⟨rfl, _, rfl⟩ := Value.slice.inj hge
                  refine J_le (st' := { env := [(2, .int .u8 z), (3, .pointer (some ⟨b0, 0, none⟩)), (4, .pointer (some ⟨b1, 0, none⟩)), (7, .slice (some ⟨g, 0, none⟩) M.length c1), (14, .int .i64 60)], mem := [(b0, row 71 (recV x (.slice va x.2.2.2.1.2.2.2.2.1.length ca) (.slice vb x.2.2.2.1.2.2.2.2.2.length cb) (.slice vc x.2.2.2.2.2.1.2.2.1.1.length cc) (.slice vd x.2.2.2.2.2.1.2.2.1.2.length cd))), (b1, row 60 (drV e0 (.slice va1 us.length vc1) (.slice va2 hs.length vc2) (.slice va3 ss.length vc3))), (b2, row 60 (drV 0 nilB nilB nilB))] ++ [(g, row 5 (dg M ++ r))], facts := (clF (.slice va x.2.2.2.1.2.2.2.2.1.length ca) (.slice vb x.2.2.2.1.2.2.2.2.2.length cb) x.2.2.2.1.2.2.2.2 ++ clF (.slice vc x.2.2.2.2.2.1.2.2.1.1.length cc) (.slice vd x.2.2.2.2.2.1.2.2.1.2.length cd) x.2.2.2.2.2.1.2.2.1) ++ (factC 2 (.slice va1 us.length vc1) us.length (us.map usW).flatten :: factC 65 (.slice va2 hs.length vc2) hs.length (hs.map hdV).flatten :: factC 4 (.slice va3 ss.length vc3) ss.length (ss.map seV).flatten :: us.map usF) }) ⟨⟨rfl, rfl, rfl, rfl, rfl, trivial⟩, List.Sublist.refl _, fun f hf => hf, rfl⟩ ?_
                  refine J_region ?_
                  refine L_v rfl rfl rfl (V_move rfl rfl) ?_
                  refine L_v rfl rfl rfl (V_move rfl rfl) ?_
                  refine L_bs1 rfl rfl rfl rfl rfl Try.underlying28 bz5wm rfl rfl (fun b9 => ?_)
                  refine L_appN [(b0, row 71 (recV x (.slice va x.2.2.2.1.2.2.2.2.1.length ca) (.slice vb x.2.2.2.1.2.2.2.2.2.length cb) (.slice vc x.2.2.2.2.2.1.2.2.1.1.length cc) (.slice vd x.2.2.2.2.2.1.2.2.1.2.length cd))), (b1, row 60 (drV e0 (.slice va1 us.length vc1) (.slice va2 hs.length vc2) (.slice va3 ss.length vc3))), (b2, row 60 (drV 0 nilB nilB nilB))] [(b9, row 5 [.int .u8 z])] (some (g, c1, r)) (dg M) (m := 1) (news := [.int .u8 z]) (n' := M.length + 1) (ks' := dg (M ++ [z])) rfl rfl rfl rfl rfl Try.underlying28 elr rfl ⟨by rw [dg_length, Nat.mul_one], hc1, by rw [Nat.mul_one]; exact hr⟩ (fun w1 hw => src_C Try.underlying28 (SlC.in hw (ks := [.int .u8 z]) (r := []) (fz := (0, 0)) (List.mem_append_right _ (List.mem_singleton.2 rfl)) rfl 1) (all_one (by kernel_rfl))) rfl (dg_app1 M z) (by omega) (by omega) (fun q2 hq2 => ?_)
                  refine L_v rfl rfl rfl (V_assign rfl rfl) ?_
                  refine L_nil ?_
                  change J _ _ _ _
                  refine J_seq ?_
                  refine J_region ?_
                  refine L_v rfl rfl rfl (V_move rfl rfl) ?_
                  refine L_call rfl rfl rfl rfl tx29wm (fun w1 hw => (getdirectory_w _ _ _ (M ++ [z]) w1 (own_sl5 (m1 := [(b0, row 71 (recV x (.slice va x.2.2.2.1.2.2.2.2.1.length ca) (.slice vb x.2.2.2.1.2.2.2.2.2.length cb) (.slice vc x.2.2.2.2.2.1.2.2.1.1.length cc) (.slice vd x.2.2.2.2.2.1.2.2.1.2.length cd))), (b1, row 60 (drV e0 (.slice va1 us.length vc1) (.slice va2 hs.length vc2) (.slice va3 ss.length vc3))), (b2, row 60 (drV 0 nilB nilB nilB))]) (m2 := [(b9, row 5 [.int .u8 z])]) hw hq2) ((encTs_byt hb2 hE).append (fun y hy => by rw [List.mem_singleton.1 hy]; exact hz)) hq2.le (by rw [List.length_append, List.length_singleton]; omega)).mono ?_)
                  rw [getW_more drC hE z]
                  rintro e w' ⟨hfr, rfl⟩
                  refine ⟨_, _, _, rfl, hw.fr0 hfr, rfl, ?_⟩
                  refine L_v rfl rfl rfl (V_move rfl rfl) ?_
                  refine L_v rfl rfl rfl (V_extract rfl rfl rfl) ?_
                  refine L_v rfl rfl rfl (V_extract rfl rfl rfl) ?_
                  refine L_alloc rfl rfl rfl rfl z60wm (fun b3 => ?_)
                  refine L_pk ([(b0, row 71 (recV x (.slice va x.2.2.2.1.2.2.2.2.1.length ca) (.slice vb x.2.2.2.1.2.2.2.2.2.length cb) (.slice vc x.2.2.2.2.2.1.2.2.1.1.length cc) (.slice vd x.2.2.2.2.2.1.2.2.1.2.length cd))), (b1, row 60 (drV e0 (.slice va1 us.length vc1) (.slice va2 hs.length vc2) (.slice va3 ss.length vc3))), (b3, row 60 (drV 0 nilB nilB nilB))]) (Pk.of_sub (List.Sublist.cons_cons _ (List.Sublist.cons_cons _ (List.sublist_append_right _ _)))) ?_
                  refine L_storeW 2 rfl rfl rfl rfl rfl rfl (szd sz60wm (by kernel_rfl)) (all_one (by kernel_rfl)) (by kernel_rfl) ?_
                  refine L_v rfl rfl rfl (V_assign rfl rfl) ?_
                  refine L_nil ?_
                  change J _ _ _ _
                  refine J_seq ?_
                  refine J_region ?_
                  refine L_v rfl rfl rfl (V_move rfl rfl) ?_
                  refine L_v rfl rfl rfl (V_neq rfl rfl rfl (by first | exact decide_eq_true (by omega) | exact decide_eq_false (by omega) | exact decide_eq_false (fun h => h rfl) | rfl)) ?_
                  refine L_v rfl rfl rfl (V_move rfl rfl) ?_
                  refine L_wv rfl rfl rfl rfl rfl rfl (V_move rfl rfl) ?_
                  refine L_wv rfl rfl rfl rfl rfl rfl (V_neq rfl rfl rfl (by first | exact decide_eq_true (by omega) | exact decide_eq_false (by omega) | exact decide_eq_false (fun h => h rfl) | rfl)) ?_
                  first | refine L_v rfl rfl rfl (V_pickT rfl rfl rfl) ?_ | refine L_v rfl rfl rfl (V_pickF rfl rfl rfl) ?_
                  refine L_nil ?_
                  change J _ _ _ _
                  refine J_false rfl ?_
                  refine J_skip ?_
                  change J _ _ _ _
                  refine J_seq ?_
                  refine J_region ?_
                  refine L_callV rfl rfl rfl rfl rfl rfl tx34wm (fun w1 hw => records_t w1) ?_
                  refine L_v rfl rfl rfl (V_move rfl rfl) ?_
                  refine L_wcallV rfl rfl rfl rfl rfl rfl rfl rfl rfl tx30wm (fun w1 hw => directories_t w1) ?_
                  first | refine L_v rfl rfl rfl (V_pickT rfl rfl rfl) ?_ | refine L_v rfl rfl rfl (V_pickF rfl rfl rfl) ?_
                  refine L_v rfl rfl rfl (V_assign rfl rfl) ?_
                  refine L_nil ?_
                  change J _ _ _ _
                  refine J_ret ?_
                  change Kret _ _ _ Exit.ret _
                  refine ret1 rfl rfl (RV_t rfl) ?_
                  exact fun w' h => ⟨rfl, h.fr⟩

theorem WireMore_w (x : Rec) (u1 u2 u3 u4 : Value) (e0 : Int) (us : List (Us × Value)) (hs : List Hd) (ss : List Se) (v1 v2 v3 : Value) (z : Int) (w : World) (hs0 : FW w (clF u1 u2 x.2.2.2.1.2.2.2.2 ++ clF u3 u4 x.2.2.2.2.2.1.2.2.1)) (hs1 : FW w (factC 2 v1 us.length (us.map usW).flatten :: factC 65 v2 hs.length (hs.map hdV).flatten :: factC 4 v3 ss.length (ss.map seV).flatten :: us.map usF)) (hb : TB recC x) (hb2 : TB drC (e0, us.map Prod.fst, hs, ss)) (hz : 0 ≤ z ∧ z < 256) (q1 : Cap u1) (q2 : Cap u2) (q3 : Cap u3) (q4 : Cap u4) :
    Calls Try.prog 8 #[.agg (recV x u1 u2 u3 u4).toArray, .agg (drV e0 v1 v2 v3).toArray, .int .u8 z] w fun e w' => e = .returned (.bool true) ∧ Fr [] w w' := by
  obtain ⟨h1, h2⟩ := FW.clE (fun f hf => hs0 f (List.mem_append_left _ hf))
  obtain ⟨h3, h4⟩ := FW.clE (fun f hf => hs0 f (List.mem_append_right _ hf))
  obtain ⟨va, ca, rfl⟩ := h1.form
  obtain ⟨vb, cb, rfl⟩ := h2.form
  obtain ⟨vc, cc, rfl⟩ := h3.form
  obtain ⟨vd, cd, rfl⟩ := h4.form
  obtain ⟨va1, vc1, rfl⟩ := SlC.form (hs1 _ (List.mem_cons_self ..)).1
  obtain ⟨va2, vc2, rfl⟩ := SlC.form (hs1 _ (List.mem_cons_of_mem _ (List.mem_cons_self ..))).1
  obtain ⟨va3, vc3, rfl⟩ := SlC.form (hs1 _ (List.mem_cons_of_mem _ (List.mem_cons_of_mem _ (List.mem_cons_self ..)))).1
  exact WireMore0_w va vb vc vd ca cb cc cd x va1 va2 va3 vc1 vc2 vc3 e0 us hs ss z w (FW.app hs0 hs1) hb hb2 hz
end Go.Proofs.Ytfgcfjojpakpjaa
