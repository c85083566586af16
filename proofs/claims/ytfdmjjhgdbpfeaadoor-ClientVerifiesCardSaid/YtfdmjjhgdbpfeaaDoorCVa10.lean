/- Part 10 of the texts that the law leans on. -/
import Derived.Test.YtfdmjjhgdbpfeaaDoorCVa9
/- Is a reply more than is looked at? -/
set_option linter.unusedVariables false
set_option linter.unusedSimpArgs false
set_option maxRecDepth 100000
namespace Go.Proofs.YtfdmjjhgdbpfeaaDoor
open Go.Sx
def zST : List Value := [.int .i64 0, .int .i64 0, .int .i64 0, .int .i64 0, .int .i64 0, .int .i64 0, .slice none 0 0, .slice none 0 0, .string ByteArray.empty, .slice none 0 0, .slice none 0 0, .int .i64 0, .int .i64 0, .int .i64 0, .int .i64 0, .int .i64 0, .slice none 0 0, .slice none 0 0, .int .i64 0, .slice none 0 0, .slice none 0 0, .int .i64 0, .int .i64 0, .int .i64 0, .int .i64 0, .slice none 0 0, .slice none 0 0, .int .i64 0, .string ByteArray.empty, .bool false]
def zSV : List Value := [.int .i64 0, .int .i64 0, .int .i64 0, .int .i64 0, .slice none 0 0, .slice none 0 0, .string ByteArray.empty, .slice none 0 0, .slice none 0 0]
def zCL : List Value := [.slice none 0 0, .slice none 0 0]
def zSN : List Value := [.int .i64 0, .int .i64 0, .slice none 0 0, .slice none 0 0, .string ByteArray.empty]
def zPT : List Value := [.int .i64 0, .int .i64 0, .int .i64 0, .int .i64 0, .slice none 0 0, .slice none 0 0, .int .i64 0, .string ByteArray.empty, .bool false]
abbrev rMs (x : Rp) : Ms := { ms0 with reply := x }
abbrev rM5 (v s : Sl) : M5 := ⟨slN, slN, slN, v, s⟩
abbrev bigRp (x : Rp) : Prop := 1000 < x.vers.length ∨ 1000 < x.pf.sib.length
theorem sz9pi : (Tryd.prog.info? 9).map (·.size) = some 1 := by kernel_rfl
theorem sz23pi : (Tryd.prog.info? 23).map (·.size) = some 1 := by kernel_rfl
theorem sz24pi : (Tryd.prog.info? 24).map (·.size) = some 1 := by kernel_rfl
theorem sz28pi : (Tryd.prog.info? 28).map (·.size) = some 66 := by kernel_rfl
theorem sz34pi : (Tryd.prog.info? 34).map (·.size) = some 169 := by kernel_rfl
theorem sz37pi : (Tryd.prog.info? 37).map (·.size) = some 1 := by kernel_rfl
theorem sz38pi : (Tryd.prog.info? 38).map (·.size) = some 1 := by kernel_rfl
theorem sz40pi : (Tryd.prog.info? 40).map (·.size) = some 2 := by kernel_rfl
theorem sz43pi : (Tryd.prog.info? 43).map (·.size) = some 38 := by kernel_rfl
theorem sz46pi : (Tryd.prog.info? 46).map (·.size) = some 225 := by kernel_rfl
theorem sz66pi : (Tryd.prog.info? 66).map (·.size) = some 5 := by kernel_rfl
theorem sz67pi : (Tryd.prog.info? 67).map (·.size) = some 1 := by kernel_rfl
theorem sz69pi : (Tryd.prog.info? 69).map (·.size) = some 9 := by kernel_rfl
theorem sz70pi : (Tryd.prog.info? 70).map (·.size) = some 1 := by kernel_rfl
theorem sz71pi : (Tryd.prog.info? 71).map (·.size) = some 1 := by kernel_rfl
theorem sz72pi : (Tryd.prog.info? 72).map (·.size) = some 1 := by kernel_rfl
theorem sz74pi : (Tryd.prog.info? 74).map (·.size) = some 9 := by kernel_rfl
theorem tx14pi : Txt Tryd.prog 14 := txt_of Tryd.func14 rfl (by kernel_rfl)
theorem tx37pi : Txt Tryd.prog 37 := txt_of Tryd.func37 rfl (by kernel_rfl)
theorem tx38pi : Txt Tryd.prog 38 := txt_of Tryd.func38 rfl (by kernel_rfl)

theorem bigC_0 (w : World) :
    Calls Tryd.prog 38 #[.agg (zCL).toArray] w fun e w' => e = .returned (.bool false) ∧ Fr [] w w' := by
  refine calls_of (args := [.agg (zCL).toArray]) ([]) ([]) ([]) Tryd.func38 rfl rfl (okW0 _ _ _ _) ?_
  refine J_seq ?_
  refine J_region ?_
  refine L_box rfl rfl rfl rfl rfl (fun b0 => ?_)
  refine L_v rfl rfl rfl (V_assign rfl rfl) ?_
  refine L_nil ?_
  change J _ _ _ _
  refine J_seq ?_
  refine J_region ?_
  refine L_v rfl rfl rfl (V_fieldAddr rfl rfl Tryd.underlying40 rfl sz38pi rfl) ?_
  refine L_v rfl rfl rfl (V_load1 0 rfl rfl rfl Tryd.underlying38 rfl (by rfl)) ?_
  refine L_v rfl rfl rfl (V_len rfl rfl Tryd.underlying38 rfl) ?_
  refine L_v rfl rfl rfl (V_gtr rfl rfl rfl (by first | exact decide_eq_true (by omega) | exact decide_eq_false (by omega) | rfl)) ?_
  refine L_v rfl rfl rfl (V_move rfl rfl) ?_
  apply L_or 4 7 12
  · rfl
  · rfl
  · rfl
  · rfl
  · rfl
  · rfl
  · rfl
  · kernel_rfl
  · intro hb1 _ _ hk1
    refine L_wv rfl rfl rfl rfl rfl rfl (V_fieldAddr rfl rfl Tryd.underlying40 rfl sz38pi rfl) ?_
    refine L_wv rfl rfl rfl rfl rfl rfl (V_load1 0 rfl rfl rfl Tryd.underlying38 rfl (by rfl)) ?_
    refine L_wv rfl rfl rfl rfl rfl rfl (V_len rfl rfl Tryd.underlying38 rfl) ?_
    refine L_wv rfl rfl rfl rfl rfl rfl (V_gtr rfl rfl rfl (by first | exact decide_eq_true (by omega) | exact decide_eq_false (by omega) | rfl)) ?_
    exact hk1 _ ⟨rfl, (by first | simp only [St.put] | rfl), (by first | simp only [St.put] | rfl), (by first | simp only [St.put] | rfl), ext_cut 4 (by kernel_rfl) (by kernel_rfl)⟩
  refine L_v rfl rfl rfl (V_assign rfl rfl) ?_
  refine L_nil ?_
  change J _ _ _ _
  refine J_ret ?_
  change Kret _ _ _ Exit.ret _
  refine ret1 rfl rfl (RV_t rfl) ?_
  exact fun w' h => ⟨congrArg (fun b => Ending.returned (Value.bool b)) (by decide), h.fr⟩

theorem big14_0 (w : World) :
    Calls Tryd.prog 37 #[.agg (zSV).toArray, .slice none 0 0] w fun e w' => e = .returned (.bool false) ∧ Fr [] w w' := by
  refine calls_of (args := [.agg (zSV).toArray, .slice none 0 0]) ([]) ([]) ([]) Tryd.func37 rfl rfl (okW0 _ _ _ _) ?_
  refine J_seq ?_
  refine J_region ?_
  refine L_box rfl rfl rfl rfl rfl (fun b0 => ?_)
  refine L_v rfl rfl rfl (V_assign rfl rfl) ?_
  refine L_nil ?_
  change J _ _ _ _
  refine J_seq ?_
  refine J_seq ?_
  refine J_region ?_
  refine L_v rfl rfl rfl (V_fieldAddr rfl rfl Tryd.underlying69 rfl sz37pi rfl) ?_
  refine L_v rfl rfl rfl (V_load1 0 rfl rfl rfl Tryd.underlying37 rfl (by rfl)) ?_
  refine L_v rfl rfl rfl (V_len rfl rfl Tryd.underlying37 rfl) ?_
  refine L_v rfl rfl rfl (V_gtr rfl rfl rfl (by first | exact decide_eq_true (by omega) | exact decide_eq_false (by omega) | rfl)) ?_
  refine L_v rfl rfl rfl (V_move rfl rfl) ?_
  apply L_or 3 12 16
  · rfl
  · rfl
  · rfl
  · rfl
  · rfl
  · rfl
  · rfl
  · kernel_rfl
  · intro hb1 _ _ hk1
    refine L_wv rfl rfl rfl rfl rfl rfl (V_move rfl rfl) ?_
    refine L_wv rfl rfl rfl rfl rfl rfl (V_len rfl rfl Tryd.underlying37 rfl) ?_
    refine L_wv rfl rfl rfl rfl rfl rfl (V_gtr rfl rfl rfl (by first | exact decide_eq_true (by omega) | exact decide_eq_false (by omega) | rfl)) ?_
    exact hk1 _ ⟨rfl, (by first | simp only [St.put] | rfl), (by first | simp only [St.put] | rfl), (by first | simp only [St.put] | rfl), ext_cut 3 (by kernel_rfl) (by kernel_rfl)⟩
  refine L_v rfl rfl rfl (V_move rfl rfl) ?_
  apply L_or 4 17 22
  · rfl
  · rfl
  · rfl
  · rfl
  · rfl
  · rfl
  · rfl
  · kernel_rfl
  · intro hb2 _ _ hk2
    refine L_wv rfl rfl rfl rfl rfl rfl (V_fieldAddr rfl rfl Tryd.underlying69 rfl sz67pi rfl) ?_
    refine L_wv rfl rfl rfl rfl rfl rfl (V_load1 0 rfl rfl rfl Tryd.underlying67 rfl (by rfl)) ?_
    refine L_wv rfl rfl rfl rfl rfl rfl (V_len rfl rfl Tryd.underlying67 rfl) ?_
    refine L_wv rfl rfl rfl rfl rfl rfl (V_gtr rfl rfl rfl (by first | exact decide_eq_true (by omega) | exact decide_eq_false (by omega) | rfl)) ?_
    exact hk2 _ ⟨rfl, (by first | simp only [St.put] | rfl), (by first | simp only [St.put] | rfl), (by first | simp only [St.put] | rfl), ext_cut 4 (by kernel_rfl) (by kernel_rfl)⟩
  refine L_v rfl rfl rfl (V_move rfl rfl) ?_
  apply L_or 4 23 28
  · rfl
  · rfl
  · rfl
  · rfl
  · rfl
  · rfl
  · rfl
  · kernel_rfl
  · intro hb3 _ _ hk3
    refine L_wv rfl rfl rfl rfl rfl rfl (V_fieldAddr rfl rfl Tryd.underlying69 rfl sz66pi rfl) ?_
    refine L_wv rfl rfl rfl rfl rfl rfl (V_fieldAddr rfl rfl Tryd.underlying66 rfl sz40pi rfl) ?_
    refine L_wv rfl rfl rfl rfl rfl rfl (V_loadT 0 (vs := zCL) rfl rfl rfl Tryd.underlying40 rfl sz40pi (by kernel_rfl) (by kernel_rfl)) ?_
    refine L_wcallV rfl rfl rfl rfl rfl rfl rfl rfl rfl tx38pi (fun w1 hw => bigC_0 w1) ?_
    exact hk3 _ ⟨rfl, (by first | simp only [St.put] | rfl), (by first | simp only [St.put] | rfl), (by first | simp only [St.put] | rfl), ext_cut 4 (by kernel_rfl) (by kernel_rfl)⟩
  refine L_nil ?_
  change J _ _ _ _
  refine J_false rfl ?_
  refine J_skip ?_
  change J _ _ _ _
  refine J_seq ?_
  refine J_region ?_
  refine L_v rfl rfl rfl (V_assign rfl rfl) ?_
  refine L_nil ?_
  change J _ _ _ _
  refine J_seq ?_
  refine J_seq ?_
  refine J_region ?_
  refine L_v rfl rfl rfl (V_assign rfl rfl) ?_
  refine L_nil ?_
  change J _ _ _ _
  refine J_block ?_
  refine J_loop (X := Unit) (fun _ => { env := [(1, .slice none 0 0), (2, .pointer (some ⟨b0, 0, none⟩)), (5, .int .i64 0), (6, .int .i64 0)], mem := [(b0, row 69 (zSV))] }) (fun _ => True) (fun _ => 0) () trivial ⟨⟨rfl, rfl, rfl, rfl, trivial⟩, List.Sublist.refl _, fun f hf => hf, rfl⟩ ?_
  rintro _ _
  refine J_seq ?_
  refine J_seq ?_
  refine J_region ?_
  refine L_v rfl rfl rfl (V_move rfl rfl) ?_
  refine L_v rfl rfl rfl (V_fieldAddr rfl rfl Tryd.underlying69 rfl sz37pi rfl) ?_
  refine L_v rfl rfl rfl (V_load1 0 rfl rfl rfl Tryd.underlying37 rfl (by rfl)) ?_
  refine L_v rfl rfl rfl (V_len rfl rfl Tryd.underlying37 rfl) ?_
  refine L_v rfl rfl rfl (V_lss rfl rfl rfl (by first | exact decide_eq_true (by omega) | exact decide_eq_false (by omega) | rfl)) ?_
  refine L_v rfl rfl rfl (V_move rfl rfl) ?_
  apply L_and 2 34 37
  · rfl
  · rfl
  · rfl
  · rfl
  · rfl
  · rfl
  · rfl
  · kernel_rfl
  · intro hb4 _ _ hk4
    refine L_wv rfl rfl rfl rfl rfl rfl (V_move rfl rfl) ?_
    refine L_wv rfl rfl rfl rfl rfl rfl (V_leq rfl rfl rfl (by first | exact decide_eq_true (by omega) | exact decide_eq_false (by omega) | rfl)) ?_
    exact hk4 _ ⟨rfl, (by first | simp only [St.put] | rfl), (by first | simp only [St.put] | rfl), (by first | simp only [St.put] | rfl), ext_cut 2 (by kernel_rfl) (by kernel_rfl)⟩
  refine L_nil ?_
  change J _ _ _ _
  refine J_false rfl ?_
  refine J_exit ?_
  change J _ _ _ _
  refine J_seq ?_
  refine J_seq ?_
  refine J_region ?_
  refine L_v rfl rfl rfl (V_assign rfl rfl) ?_
  refine L_nil ?_
  change J _ _ _ _
  refine J_block ?_
  refine J_loop (X := Unit) (fun _ => { env := [(1, .slice none 0 0), (2, .pointer (some ⟨b0, 0, none⟩)), (5, .int .i64 0), (7, .int .i64 0)], mem := [(b0, row 69 (zSV))] }) (fun _ => True) (fun _ => 0) () trivial ⟨⟨rfl, rfl, rfl, rfl, trivial⟩, List.Sublist.refl _, fun f hf => hf, rfl⟩ ?_
  rintro _ _
  refine J_seq ?_
  refine J_seq ?_
  refine J_region ?_
  refine L_v rfl rfl rfl (V_move rfl rfl) ?_
  refine L_v rfl rfl rfl (V_move rfl rfl) ?_
  refine L_v rfl rfl rfl (V_len rfl rfl Tryd.underlying37 rfl) ?_
  refine L_v rfl rfl rfl (V_lss rfl rfl rfl (by first | exact decide_eq_true (by omega) | exact decide_eq_false (by omega) | rfl)) ?_
  refine L_v rfl rfl rfl (V_move rfl rfl) ?_
  apply L_and 2 65 68
  · rfl
  · rfl
  · rfl
  · rfl
  · rfl
  · rfl
  · rfl
  · kernel_rfl
  · intro hb5 _ _ hk5
    refine L_wv rfl rfl rfl rfl rfl rfl (V_move rfl rfl) ?_
    refine L_wv rfl rfl rfl rfl rfl rfl (V_leq rfl rfl rfl (by first | exact decide_eq_true (by omega) | exact decide_eq_false (by omega) | rfl)) ?_
    exact hk5 _ ⟨rfl, (by first | simp only [St.put] | rfl), (by first | simp only [St.put] | rfl), (by first | simp only [St.put] | rfl), ext_cut 2 (by kernel_rfl) (by kernel_rfl)⟩
  refine L_nil ?_
  change J _ _ _ _
  refine J_false rfl ?_
  refine J_exit ?_
  change J _ _ _ _
  refine J_seq ?_
  refine J_region ?_
  refine L_v rfl rfl rfl (V_move rfl rfl) ?_
  refine L_v rfl rfl rfl (V_gtr rfl rfl rfl (by first | exact decide_eq_true (by omega) | exact decide_eq_false (by omega) | rfl)) ?_
  refine L_v rfl rfl rfl (V_assign rfl rfl) ?_
  refine L_nil ?_
  change J _ _ _ _
  refine J_ret ?_
  change Kret _ _ _ Exit.ret _
  refine ret1 rfl rfl (RV_t rfl) ?_
  exact fun w' h => ⟨congrArg (fun b => Ending.returned (Value.bool b)) (by decide), h.fr⟩

set_option maxHeartbeats 1000000 in
theorem big17_r (x : Rp) (v s : Sl) (w : World) :
    Calls Tryd.prog 14 #[.agg (zST).toArray, .agg (msM (rMs x) (rM5 v s)).toArray] w fun e w' => e = .returned (.bool (decide (bigRp x))) ∧ Fr [] w w' := by
  refine calls_of (args := [.agg (zST).toArray, .agg (msM (rMs x) (rM5 v s)).toArray]) ([]) ([]) ([]) Tryd.func14 rfl rfl (okW0 _ _ _ _) ?_
  refine J_seq ?_
  refine J_region ?_
  refine L_box rfl rfl rfl rfl rfl (fun b0 => ?_)
  refine L_box rfl rfl rfl rfl rfl (fun b1 => ?_)
  refine L_v rfl rfl rfl (V_assign rfl rfl) ?_
  refine L_nil ?_
  change J _ _ _ _
  refine J_seq ?_
  refine J_seq ?_
  refine J_region ?_
  refine L_v rfl rfl rfl (V_fieldAddr rfl rfl Tryd.underlying76 rfl sz38pi rfl) ?_
  refine L_v rfl rfl rfl (V_load1 0 rfl rfl rfl Tryd.underlying38 rfl (by rfl)) ?_
  refine L_v rfl rfl rfl (V_len rfl rfl Tryd.underlying38 rfl) ?_
  refine L_v rfl rfl rfl (V_gtr rfl rfl rfl (by first | exact decide_eq_true (by omega) | exact decide_eq_false (by omega) | rfl)) ?_
  refine L_v rfl rfl rfl (V_move rfl rfl) ?_
  apply L_or 4 9 14
  · rfl
  · rfl
  · rfl
  · rfl
  · rfl
  · rfl
  · rfl
  · kernel_rfl
  · intro hb1 _ _ hk1
    refine L_wv rfl rfl rfl rfl rfl rfl (V_fieldAddr rfl rfl Tryd.underlying76 rfl sz70pi rfl) ?_
    refine L_wv rfl rfl rfl rfl rfl rfl (V_load1 0 rfl rfl rfl Tryd.underlying70 rfl (by rfl)) ?_
    refine L_wv rfl rfl rfl rfl rfl rfl (V_len rfl rfl Tryd.underlying70 rfl) ?_
    refine L_wv rfl rfl rfl rfl rfl rfl (V_gtr rfl rfl rfl (by first | exact decide_eq_true (by omega) | exact decide_eq_false (by omega) | rfl)) ?_
    exact hk1 _ ⟨rfl, (by first | simp only [St.put] | rfl), (by first | simp only [St.put] | rfl), (by first | simp only [St.put] | rfl), ext_cut 4 (by kernel_rfl) (by kernel_rfl)⟩
  refine L_v rfl rfl rfl (V_move rfl rfl) ?_
  apply L_or 4 15 20
  · rfl
  · rfl
  · rfl
  · rfl
  · rfl
  · rfl
  · rfl
  · kernel_rfl
  · intro hb2 _ _ hk2
    refine L_wv rfl rfl rfl rfl rfl rfl (V_fieldAddr rfl rfl Tryd.underlying76 rfl sz71pi rfl) ?_
    refine L_wv rfl rfl rfl rfl rfl rfl (V_load1 0 rfl rfl rfl Tryd.underlying71 rfl (by rfl)) ?_
    refine L_wv rfl rfl rfl rfl rfl rfl (V_len rfl rfl Tryd.underlying71 rfl) ?_
    refine L_wv rfl rfl rfl rfl rfl rfl (V_gtr rfl rfl rfl (by first | exact decide_eq_true (by omega) | exact decide_eq_false (by omega) | rfl)) ?_
    exact hk2 _ ⟨rfl, (by first | simp only [St.put] | rfl), (by first | simp only [St.put] | rfl), (by first | simp only [St.put] | rfl), ext_cut 4 (by kernel_rfl) (by kernel_rfl)⟩
  refine L_v rfl rfl rfl (V_move rfl rfl) ?_
  apply L_or 4 21 26
  · rfl
  · rfl
  · rfl
  · rfl
  · rfl
  · rfl
  · rfl
  · kernel_rfl
  · intro hb3 _ _ hk3
    refine L_wv rfl rfl rfl rfl rfl rfl (V_fieldAddr rfl rfl Tryd.underlying76 rfl sz72pi rfl) ?_
    refine L_wv rfl rfl rfl rfl rfl rfl (V_load1 0 rfl rfl rfl Tryd.underlying72 rfl (by rfl)) ?_
    refine L_wv rfl rfl rfl rfl rfl rfl (V_len rfl rfl Tryd.underlying72 rfl) ?_
    refine L_wv rfl rfl rfl rfl rfl rfl (V_gtr rfl rfl rfl (by first | exact decide_eq_true (by omega) | exact decide_eq_false (by omega) | rfl)) ?_
    exact hk3 _ ⟨rfl, (by first | simp only [St.put] | rfl), (by first | simp only [St.put] | rfl), (by first | simp only [St.put] | rfl), ext_cut 4 (by kernel_rfl) (by kernel_rfl)⟩
  refine L_v rfl rfl rfl (V_move rfl rfl) ?_
  apply L_or 5 27 33
  · rfl
  · rfl
  · rfl
  · rfl
  · rfl
  · rfl
  · rfl
  · kernel_rfl
  · intro hb4 _ _ hk4
    refine L_wv rfl rfl rfl rfl rfl rfl (V_fieldAddr rfl rfl Tryd.underlying76 rfl sz74pi rfl) ?_
    refine L_wv rfl rfl rfl rfl rfl rfl (V_fieldAddr rfl rfl Tryd.underlying74 rfl sz9pi rfl) ?_
    refine L_wv rfl rfl rfl rfl rfl rfl (V_load1 0 rfl rfl rfl Tryd.underlying9 rfl (by rfl)) ?_
    refine L_wv rfl rfl rfl rfl rfl rfl (V_lenS rfl rfl Tryd.underlying9 rfl) ?_
    refine L_wv rfl rfl rfl rfl rfl rfl (V_gtr rfl rfl rfl (by first | exact decide_eq_true (by omega) | exact decide_eq_false (by omega) | rfl)) ?_
    exact hk4 _ ⟨rfl, (by first | simp only [St.put] | rfl), (by first | simp only [St.put] | rfl), (by first | simp only [St.put] | rfl), ext_cut 5 (by kernel_rfl) (by kernel_rfl)⟩
  refine L_v rfl rfl rfl (V_move rfl rfl) ?_
  apply L_or 4 34 39
  · rfl
  · rfl
  · rfl
  · rfl
  · rfl
  · rfl
  · rfl
  · kernel_rfl
  · intro hb5 _ _ hk5
    refine L_wv rfl rfl rfl rfl rfl rfl (V_fieldAddr rfl rfl Tryd.underlying46 rfl sz9pi rfl) ?_
    refine L_wv rfl rfl rfl rfl rfl rfl (V_load1 1 rfl rfl rfl Tryd.underlying9 rfl (by rfl)) ?_
    refine L_wv rfl rfl rfl rfl rfl rfl (V_lenS rfl rfl Tryd.underlying9 rfl) ?_
    refine L_wv rfl rfl rfl rfl rfl rfl (V_gtr rfl rfl rfl (by first | exact decide_eq_true (by omega) | exact decide_eq_false (by omega) | rfl)) ?_
    exact hk5 _ ⟨rfl, (by first | simp only [St.put] | rfl), (by first | simp only [St.put] | rfl), (by first | simp only [St.put] | rfl), ext_cut 4 (by kernel_rfl) (by kernel_rfl)⟩
  refine L_v rfl rfl rfl (V_move rfl rfl) ?_
  apply L_or 6 40 47
  · rfl
  · rfl
  · rfl
  · rfl
  · rfl
  · rfl
  · rfl
  · kernel_rfl
  · intro hb6 _ _ hk6
    refine L_wv rfl rfl rfl rfl rfl rfl (V_fieldAddr rfl rfl Tryd.underlying76 rfl sz69pi rfl) ?_
    refine L_wv rfl rfl rfl rfl rfl rfl (V_fieldAddr rfl rfl Tryd.underlying69 rfl sz66pi rfl) ?_
    refine L_wv rfl rfl rfl rfl rfl rfl (V_fieldAddr rfl rfl Tryd.underlying66 rfl sz9pi rfl) ?_
    refine L_wv rfl rfl rfl rfl rfl rfl (V_load1 0 rfl rfl rfl Tryd.underlying9 rfl (by rfl)) ?_
    refine L_wv rfl rfl rfl rfl rfl rfl (V_lenS rfl rfl Tryd.underlying9 rfl) ?_
    refine L_wv rfl rfl rfl rfl rfl rfl (V_gtr rfl rfl rfl (by first | exact decide_eq_true (by omega) | exact decide_eq_false (by omega) | rfl)) ?_
    exact hk6 _ ⟨rfl, (by first | simp only [St.put] | rfl), (by first | simp only [St.put] | rfl), (by first | simp only [St.put] | rfl), ext_cut 6 (by kernel_rfl) (by kernel_rfl)⟩
  refine L_nil ?_
  change J _ _ _ _
  refine J_false rfl ?_
  refine J_skip ?_
  change J _ _ _ _
  refine J_seq ?_
  refine J_region ?_
  refine L_v rfl rfl rfl (V_fieldAddr rfl rfl Tryd.underlying76 rfl sz69pi rfl) ?_
  refine L_v rfl rfl rfl (V_loadT 0 (vs := zSV) rfl rfl rfl Tryd.underlying69 rfl sz69pi (by kernel_rfl) (by kernel_rfl)) ?_
  refine L_v rfl rfl rfl (V_fieldAddr rfl rfl Tryd.underlying46 rfl sz37pi rfl) ?_
  refine L_v rfl rfl rfl (V_load1 1 rfl rfl rfl Tryd.underlying37 rfl (by rfl)) ?_
  refine L_callV rfl rfl rfl rfl rfl rfl tx37pi (fun w1 hw => big14_0 w1) ?_
  refine L_v rfl rfl rfl (V_move rfl rfl) ?_
  apply L_or 4 53 58
  · rfl
  · rfl
  · rfl
  · rfl
  · rfl
  · rfl
  · rfl
  · kernel_rfl
  · intro hb7 _ _ hk7
    refine L_wv rfl rfl rfl rfl rfl rfl (V_fieldAddr rfl rfl Tryd.underlying76 rfl sz74pi rfl) ?_
    refine L_wv rfl rfl rfl rfl rfl rfl (V_fieldAddr rfl rfl Tryd.underlying74 rfl sz40pi rfl) ?_
    refine L_wv rfl rfl rfl rfl rfl rfl (V_loadT 0 (vs := zCL) rfl rfl rfl Tryd.underlying40 rfl sz40pi (by kernel_rfl) (by kernel_rfl)) ?_
    refine L_wcallV rfl rfl rfl rfl rfl rfl rfl rfl rfl tx38pi (fun w1 hw => bigC_0 w1) ?_
    exact hk7 _ ⟨rfl, (by first | simp only [St.put] | rfl), (by first | simp only [St.put] | rfl), (by first | simp only [St.put] | rfl), ext_cut 4 (by kernel_rfl) (by kernel_rfl)⟩
  refine L_v rfl rfl rfl (V_move rfl rfl) ?_
  apply L_or 3 59 63
  · rfl
  · rfl
  · rfl
  · rfl
  · rfl
  · rfl
  · rfl
  · kernel_rfl
  · intro hb8 _ _ hk8
    refine L_wv rfl rfl rfl rfl rfl rfl (V_fieldAddr rfl rfl Tryd.underlying46 rfl sz40pi rfl) ?_
    refine L_wv rfl rfl rfl rfl rfl rfl (V_loadT 1 (vs := zCL) rfl rfl rfl Tryd.underlying40 rfl sz40pi (by kernel_rfl) (by kernel_rfl)) ?_
    refine L_wcallV rfl rfl rfl rfl rfl rfl rfl rfl rfl tx38pi (fun w1 hw => bigC_0 w1) ?_
    exact hk8 _ ⟨rfl, (by first | simp only [St.put] | rfl), (by first | simp only [St.put] | rfl), (by first | simp only [St.put] | rfl), ext_cut 3 (by kernel_rfl) (by kernel_rfl)⟩
  refine L_v rfl rfl rfl (V_move rfl rfl) ?_
  apply L_or 5 64 70
  · rfl
  · rfl
  · rfl
  · rfl
  · rfl
  · rfl
  · rfl
  · kernel_rfl
  · intro hb9 _ _ hk9
    refine L_wv rfl rfl rfl rfl rfl rfl (V_fieldAddr rfl rfl Tryd.underlying46 rfl sz34pi rfl) ?_
    refine L_wv rfl rfl rfl rfl rfl rfl (V_fieldAddr rfl rfl Tryd.underlying34 rfl sz23pi rfl) ?_
    refine L_wv rfl rfl rfl rfl rfl rfl (V_load1 1 rfl rfl rfl Tryd.underlying23 rfl (by rfl)) ?_
    refine L_wv rfl rfl rfl rfl rfl rfl (V_len rfl rfl Tryd.underlying23 rfl) ?_
    refine L_wv rfl rfl rfl rfl rfl rfl (V_gtr rfl rfl rfl (by first | exact decide_eq_true (by omega) | exact decide_eq_false (by omega) | rfl)) ?_
    exact hk9 _ ⟨rfl, (by first | simp only [St.put] | rfl), (by first | simp only [St.put] | rfl), (by first | simp only [St.put] | rfl), ext_cut 5 (by kernel_rfl) (by kernel_rfl)⟩
  refine L_v rfl rfl rfl (V_move rfl rfl) ?_
  apply L_or 6 71 78
  · rfl
  · rfl
  · rfl
  · rfl
  · rfl
  · rfl
  · rfl
  · kernel_rfl
  · intro hb10 _ _ hk10
    refine L_wv rfl rfl rfl rfl rfl rfl (V_fieldAddr rfl rfl Tryd.underlying46 rfl sz34pi rfl) ?_
    refine L_wv rfl rfl rfl rfl rfl rfl (V_fieldAddr rfl rfl Tryd.underlying34 rfl sz28pi rfl) ?_
    refine L_wv rfl rfl rfl rfl rfl rfl (V_fieldAddr rfl rfl Tryd.underlying28 rfl sz24pi rfl) ?_
    refine L_wv rfl rfl rfl rfl rfl rfl (V_load1 1 rfl rfl rfl Tryd.underlying24 rfl (by rfl)) ?_
    refine L_wv rfl rfl rfl rfl rfl rfl (V_len rfl rfl Tryd.underlying24 rfl) ?_
    refine L_wv rfl rfl rfl rfl rfl rfl (V_gtr rfl rfl rfl (by first | exact decide_eq_true (by omega) | exact decide_eq_false (by omega) | rfl)) ?_
    exact hk10 _ ⟨rfl, (by first | simp only [St.put] | rfl), (by first | simp only [St.put] | rfl), (by first | simp only [St.put] | rfl), ext_cut 6 (by kernel_rfl) (by kernel_rfl)⟩
  refine L_v rfl rfl rfl (V_assign rfl rfl) ?_
  refine L_nil ?_
  change J _ _ _ _
  refine J_ret ?_
  change Kret _ _ _ Exit.ret _
  refine ret1 rfl rfl (RV_t rfl) ?_
  exact fun w' h => ⟨congrArg (fun b => Ending.returned (Value.bool b)) (by rw [Bool.eq_iff_iff]; simp only [decide_eq_true_eq, Bool.and_eq_true, Bool.or_eq_true, Bool.not_eq_true', decide_eq_false_iff_not]; show _ ↔ 1000 < x.vers.length ∨ 1000 < x.pf.sib.length; simp; omega), h.fr⟩

theorem large_eq (x : Rp) (a b : ByteArray) : (((((((decide (bigRp rp0) || decide (bigRp x)) || decide ((100000 : Int) < (a.size : Int))) || decide ((100000 : Int) < (b.size : Int))) || false) || false) || false) || false) = decide (bigRp x ∨ 100000 < a.size ∨ 100000 < b.size) := by
  have h0 : ¬ bigRp rp0 := by unfold bigRp rp0; simp [pf0]
  rw [Bool.eq_iff_iff]
  simp only [Bool.or_eq_true, decide_eq_true_eq, Bool.false_eq_true, or_false]
  omega
set_option maxHeartbeats 1000000 in
theorem large_r (x : Rp) (v s : Sl) (a b : ByteArray) (w : World) :
    Calls Tryd.prog 5 #[.agg (ctM ct0 m50).toArray, .agg (msM (rMs x) (rM5 v s)).toArray, .string a, .string b] w fun e w' => e = .returned (.bool (decide (bigRp x ∨ 100000 < a.size ∨ 100000 < b.size))) ∧ Fr [] w w' := by
  refine calls_of (args := [.agg (ctM ct0 m50).toArray, .agg (msM (rMs x) (rM5 v s)).toArray, .string a, .string b]) ([]) ([]) ([]) Tryd.func5 rfl rfl (okW0 _ _ _ _) ?_
  refine J_seq ?_
  refine J_region ?_
  refine L_box rfl rfl rfl rfl rfl (fun b0 => ?_)
  refine L_box rfl rfl rfl rfl rfl (fun b1 => ?_)
  refine L_v rfl rfl rfl (V_assign rfl rfl) ?_
  refine L_nil ?_
  change J _ _ _ _
  refine J_seq ?_
  refine J_region ?_
  refine L_v rfl rfl rfl (V_buildE (v := .agg (zST).toArray) rfl rfl (fun w => by kernel_rfl)) ?_
  refine L_v rfl rfl rfl (V_fieldAddr rfl rfl Tryd.underlying48 rfl sz46pi rfl) ?_
  refine L_v rfl rfl rfl (V_loadT 0 (vs := msM ct0.msg m50) rfl rfl rfl Tryd.underlying46 rfl sz46pi (by kernel_rfl) (by kernel_rfl)) ?_
  refine L_callV rfl rfl rfl rfl rfl rfl tx14pi (fun w1 hw => big17_r rp0 slN slN w1) ?_
  refine L_v rfl rfl rfl (V_move rfl rfl) ?_
  apply L_or 3 13 17
  · rfl
  · rfl
  · rfl
  · rfl
  · rfl
  · rfl
  · rfl
  · kernel_rfl
  · intro hb1 _ _ hk1
    refine L_wv rfl rfl rfl rfl rfl rfl (V_buildE (v := .agg (zST).toArray) rfl rfl (fun w => by kernel_rfl)) ?_
    refine L_wv rfl rfl rfl rfl rfl rfl (V_loadT 1 (vs := msM (rMs x) (rM5 v s)) rfl rfl rfl Tryd.underlying46 rfl sz46pi (by kernel_rfl) (by kernel_rfl)) ?_
    refine L_wcallV rfl rfl rfl rfl rfl rfl rfl rfl rfl tx14pi (fun w1 hw => big17_r x v s w1) ?_
    exact hk1 _ ⟨rfl, (by first | simp only [St.put] | rfl), (by first | simp only [St.put] | rfl), (by first | simp only [St.put] | rfl), ext_cut 3 (by kernel_rfl) (by kernel_rfl)⟩
  refine L_v rfl rfl rfl (V_move rfl rfl) ?_
  apply L_or 3 18 22
  · rfl
  · rfl
  · rfl
  · rfl
  · rfl
  · rfl
  · rfl
  · kernel_rfl
  · intro hb2 _ _ hk2
    refine L_wv rfl rfl rfl rfl rfl rfl (V_move rfl rfl) ?_
    refine L_wv rfl rfl rfl rfl rfl rfl (V_lenS rfl rfl Tryd.underlying9 rfl) ?_
    refine L_wv rfl rfl rfl rfl rfl rfl (V_gtr rfl rfl rfl (by first | exact decide_eq_true (by omega) | exact decide_eq_false (by omega) | rfl)) ?_
    exact hk2 _ ⟨rfl, (by first | simp only [St.put] | rfl), (by first | simp only [St.put] | rfl), (by first | simp only [St.put] | rfl), ext_cut 3 (by kernel_rfl) (by kernel_rfl)⟩
  refine L_v rfl rfl rfl (V_move rfl rfl) ?_
  apply L_or 3 23 27
  · rfl
  · rfl
  · rfl
  · rfl
  · rfl
  · rfl
  · rfl
  · kernel_rfl
  · intro hb3 _ _ hk3
    refine L_wv rfl rfl rfl rfl rfl rfl (V_move rfl rfl) ?_
    refine L_wv rfl rfl rfl rfl rfl rfl (V_lenS rfl rfl Tryd.underlying9 rfl) ?_
    refine L_wv rfl rfl rfl rfl rfl rfl (V_gtr rfl rfl rfl (by first | exact decide_eq_true (by omega) | exact decide_eq_false (by omega) | rfl)) ?_
    exact hk3 _ ⟨rfl, (by first | simp only [St.put] | rfl), (by first | simp only [St.put] | rfl), (by first | simp only [St.put] | rfl), ext_cut 3 (by kernel_rfl) (by kernel_rfl)⟩
  refine L_v rfl rfl rfl (V_move rfl rfl) ?_
  apply L_or 5 28 34
  · rfl
  · rfl
  · rfl
  · rfl
  · rfl
  · rfl
  · rfl
  · kernel_rfl
  · intro hb4 _ _ hk4
    refine L_wv rfl rfl rfl rfl rfl rfl (V_fieldAddr rfl rfl Tryd.underlying48 rfl sz46pi rfl) ?_
    refine L_wv rfl rfl rfl rfl rfl rfl (V_fieldAddr rfl rfl Tryd.underlying46 rfl sz9pi rfl) ?_
    refine L_wv rfl rfl rfl rfl rfl rfl (V_load1 0 rfl rfl rfl Tryd.underlying9 rfl (by rfl)) ?_
    refine L_wv rfl rfl rfl rfl rfl rfl (V_lenS rfl rfl Tryd.underlying9 rfl) ?_
    refine L_wv rfl rfl rfl rfl rfl rfl (V_gtr rfl rfl rfl (by first | exact decide_eq_true (by omega) | exact decide_eq_false (by omega) | rfl)) ?_
    exact hk4 _ ⟨rfl, (by first | simp only [St.put] | rfl), (by first | simp only [St.put] | rfl), (by first | simp only [St.put] | rfl), ext_cut 5 (by kernel_rfl) (by kernel_rfl)⟩
  refine L_v rfl rfl rfl (V_move rfl rfl) ?_
  apply L_or 6 35 42
  · rfl
  · rfl
  · rfl
  · rfl
  · rfl
  · rfl
  · rfl
  · kernel_rfl
  · intro hb5 _ _ hk5
    refine L_wv rfl rfl rfl rfl rfl rfl (V_fieldAddr rfl rfl Tryd.underlying48 rfl sz46pi rfl) ?_
    refine L_wv rfl rfl rfl rfl rfl rfl (V_fieldAddr rfl rfl Tryd.underlying46 rfl sz43pi rfl) ?_
    refine L_wv rfl rfl rfl rfl rfl rfl (V_fieldAddr rfl rfl Tryd.underlying43 rfl sz9pi rfl) ?_
    refine L_wv rfl rfl rfl rfl rfl rfl (V_load1 0 rfl rfl rfl Tryd.underlying9 rfl (by rfl)) ?_
    refine L_wv rfl rfl rfl rfl rfl rfl (V_lenS rfl rfl Tryd.underlying9 rfl) ?_
    refine L_wv rfl rfl rfl rfl rfl rfl (V_gtr rfl rfl rfl (by first | exact decide_eq_true (by omega) | exact decide_eq_false (by omega) | rfl)) ?_
    exact hk5 _ ⟨rfl, (by first | simp only [St.put] | rfl), (by first | simp only [St.put] | rfl), (by first | simp only [St.put] | rfl), ext_cut 6 (by kernel_rfl) (by kernel_rfl)⟩
  refine L_v rfl rfl rfl (V_move rfl rfl) ?_
  apply L_or 6 43 50
  · rfl
  · rfl
  · rfl
  · rfl
  · rfl
  · rfl
  · rfl
  · kernel_rfl
  · intro hb6 _ _ hk6
    refine L_wv rfl rfl rfl rfl rfl rfl (V_fieldAddr rfl rfl Tryd.underlying48 rfl sz46pi rfl) ?_
    refine L_wv rfl rfl rfl rfl rfl rfl (V_fieldAddr rfl rfl Tryd.underlying46 rfl sz43pi rfl) ?_
    refine L_wv rfl rfl rfl rfl rfl rfl (V_fieldAddr rfl rfl Tryd.underlying43 rfl sz9pi rfl) ?_
    refine L_wv rfl rfl rfl rfl rfl rfl (V_load1 0 rfl rfl rfl Tryd.underlying9 rfl (by rfl)) ?_
    refine L_wv rfl rfl rfl rfl rfl rfl (V_lenS rfl rfl Tryd.underlying9 rfl) ?_
    refine L_wv rfl rfl rfl rfl rfl rfl (V_gtr rfl rfl rfl (by first | exact decide_eq_true (by omega) | exact decide_eq_false (by omega) | rfl)) ?_
    exact hk6 _ ⟨rfl, (by first | simp only [St.put] | rfl), (by first | simp only [St.put] | rfl), (by first | simp only [St.put] | rfl), ext_cut 6 (by kernel_rfl) (by kernel_rfl)⟩
  refine L_v rfl rfl rfl (V_move rfl rfl) ?_
  apply L_or 5 51 57
  · rfl
  · rfl
  · rfl
  · rfl
  · rfl
  · rfl
  · rfl
  · kernel_rfl
  · intro hb7 _ _ hk7
    refine L_wv rfl rfl rfl rfl rfl rfl (V_fieldAddr rfl rfl Tryd.underlying46 rfl sz43pi rfl) ?_
    refine L_wv rfl rfl rfl rfl rfl rfl (V_fieldAddr rfl rfl Tryd.underlying43 rfl sz9pi rfl) ?_
    refine L_wv rfl rfl rfl rfl rfl rfl (V_load1 1 rfl rfl rfl Tryd.underlying9 rfl (by rfl)) ?_
    refine L_wv rfl rfl rfl rfl rfl rfl (V_lenS rfl rfl Tryd.underlying9 rfl) ?_
    refine L_wv rfl rfl rfl rfl rfl rfl (V_gtr rfl rfl rfl (by first | exact decide_eq_true (by omega) | exact decide_eq_false (by omega) | rfl)) ?_
    exact hk7 _ ⟨rfl, (by first | simp only [St.put] | rfl), (by first | simp only [St.put] | rfl), (by first | simp only [St.put] | rfl), ext_cut 5 (by kernel_rfl) (by kernel_rfl)⟩
  refine L_v rfl rfl rfl (V_assign rfl rfl) ?_
  refine L_nil ?_
  change J _ _ _ _
  refine J_ret ?_
  change Kret _ _ _ Exit.ret _
  refine ret1 rfl rfl (RV_t rfl) ?_
  exact fun w' h => ⟨congrArg (fun b => Ending.returned (Value.bool b)) (large_eq x a b), h.fr⟩

end Go.Proofs.YtfdmjjhgdbpfeaaDoor

/- A leaf's digest. -/
set_option linter.unusedVariables false
set_option linter.unusedSimpArgs false
set_option maxRecDepth 100000
namespace Go.Proofs.YtfdmjjhgdbpfeaaDoor
open Go.Sx
theorem ap_own {cx : Cx} {m : Mem} {fs : List Fact} {w : World} {i j b g : Nat} {p q : Obj} {l : List Int} {n c : Nat} (h : OkW cx m fs w) (hi : m[i]? = some (b, p)) (hj : m[j]? = some (g, q)) (hij : i ≠ j) : ∀ k, (factB (.slice (some ⟨g, 0, none⟩) n c) l).fp k → k ≠ b := by
  rintro k ⟨_, off, n', c', e⟩ rfl
  simp only [Value.slice.injEq, Option.some.injEq, Addr.mk.injEq] at e
  obtain ⟨⟨rfl, _⟩, _⟩ := e
  exact hij (key_unique h.dis hi hj)
theorem hsum_d (b : Nat) (ws : R8) (bl m : List Int) (w : World) (hb : w.heap[b]? = some (row 157 (hL ws.l bl (m.length : Int)))) (hs : HS m ws bl) (hK : TabK KT 1 w) (hsz : m.length ≤ 1099511627000) : Calls Tryd.prog 61 #[.pointer (some ⟨b, 0, none⟩)] w fun e w' => e = .returned (.agg (dgM (shD m)).toArray) ∧ Fr [] w w' := by
  rw [show dgM (shD m) = dg (shaP m) from by unfold dgM; rw [l32_shD]]
  exact hsum_w b ws bl m w hb hs hK hsz
theorem l2s_next {l : List Dg} {i : Nat} (m : Int) (h : i < l.length) : m :: l2s (l.take (i + 1)) = (m :: l2s (l.take i)) ++ l32 (l.getD i dz) := by rw [l2s_take h]; rfl
theorem sz5pj : (Tryd.prog.info? 5).map (·.size) = some 1 := by kernel_rfl
theorem sz26pj : (Tryd.prog.info? 26).map (·.size) = some 32 := by kernel_rfl
theorem tx36pj : Txt Tryd.prog 36 := txt_of Tryd.func36 rfl (by kernel_rfl)
theorem tx39pj : Txt Tryd.prog 39 := txt_of Tryd.func39 rfl (by kernel_rfl)
theorem tx59pj : Txt Tryd.prog 59 := txt_of Tryd.func59 rfl (by kernel_rfl)
theorem tx60pj : Txt Tryd.prog 60 := txt_of Tryd.func60 rfl (by kernel_rfl)
theorem tx61pj : Txt Tryd.prog 61 := txt_of Tryd.func61 rfl (by kernel_rfl)
theorem z26pj : (Tryd.prog.info? 26).bind (·.zero) = some (.agg (dgM dz).toArray) := by kernel_rfl

set_option maxHeartbeats 1000000 in
theorem summed5_w (m : Int) (l : List Dg) (s : Sl) (w : World) (f1 : FA w (sbF l s)) (hB : l.length ≤ 1000) (hbm : Byt [m]) (hbl : ∀ f ∈ l, DB f) (hK : TabK KT 1 w) :
    Calls Tryd.prog 39 #[.int .i64 32, .int .u8 m, .slice s.1 l.length s.2] w fun e w' => e = .returned (.agg (dgM (shD (m :: l2s l))).toArray) ∧ Fr [] w w' := by
  refine calls_of (args := [.int .i64 32, .int .u8 m, .slice s.1 l.length s.2]) ([]) ([]) ([sbF l s]) Tryd.func39 rfl rfl (okFW (.cons f1 .nil)) ?_
  refine J_seq ?_
  refine J_region ?_
  refine L_alloc rfl rfl rfl rfl z26pj (fun b0 => ?_)
  refine L_nil ?_
  change J _ _ _ _
  refine J_seq ?_
  refine J_region ?_
  refine L_call rfl rfl rfl rfl tx59pj (fun w1 hw => (hnew_w w1).mono ?_)
  rintro e w' ⟨b1, rfl, hfr1, hsz1, hb1⟩
  refine ⟨_, _, _, rfl, hw.add hfr1 hb1 hsz1, rfl, ?_⟩
  refine L_v rfl rfl rfl (V_assign rfl rfl) ?_
  refine L_nil ?_
  change J _ _ _ _
  refine J_seq ?_
  refine J_region ?_
  refine L_v rfl rfl rfl (V_move rfl rfl) ?_
  refine L_v rfl rfl rfl (V_move rfl rfl) ?_
  refine L_buildSlice (vs := [(0, .int .u8 m)]) (l := dg [m]) rfl rfl rfl rfl rfl (bs1b m) (fun b2 => ?_)
  refine L_call rfl rfl rfl rfl tx60pj (fun w1 hw => (write_w b1 R0 (List.replicate 64 0) [] [m] (some ⟨b2, 0, none⟩) 1 1 w1 (hw.at (i := 1) rfl) hs0 (SlB.of_mem' hw (i := 2) rfl rfl 1) (ap_own hw (i := 1) (j := 2) rfl rfl (by decide)) hbm (Nat.le_refl _) (TabK.later hw (by simp) hK) (fun e => by have h1 : w.heap.size ≤ b1 := hw.ge rfl (i := 1) rfl; have h2 := hK.lt; omega) (by simp)).mono ?_)
  rintro e w' ⟨ws2, bl2, rfl, hfr2, hb2, hs2⟩
  refine ⟨_, _, _, rfl, hw.set (i := 1) rfl hfr2 hb2, rfl, ?_⟩
  refine L_nil ?_
  change J _ _ _ _
  refine J_seq ?_
  refine J_seq ?_
  refine J_region ?_
  refine L_v rfl rfl rfl (V_move rfl rfl) ?_
  refine L_v rfl rfl rfl (V_len rfl rfl Tryd.underlying24 rfl) ?_
  refine L_v rfl rfl rfl (V_move rfl rfl) ?_
  refine L_nil ?_
  change J _ _ _ _
  refine J_block ?_
  refine J_loop (X := Nat × R8 × List Int) (fun y => { env := [(0, .int .i64 32), (6, .pointer (some ⟨b0, 0, none⟩)), (7, .pointer (some ⟨b1, 0, none⟩)), (15, .slice s.1 l.length s.2), (16, .int .i64 (l.length : Int)), (17, .int .i64 (y.1 : Int))], mem := [(b0, row 26 (dgM dz)), (b1, row 157 (hL y.2.1.l y.2.2 ((m :: l2s (l.take y.1)).length : Int)))], facts := [sbF l s] }) (fun y => y.1 ≤ l.length ∧ HS (m :: l2s (l.take y.1)) y.2.1 y.2.2) (fun y => l.length - y.1) (0, ws2, bl2) ⟨Nat.zero_le _, hs2⟩ ⟨⟨rfl, rfl, rfl, rfl, rfl, rfl, trivial⟩, List.Sublist.cons_cons _ (List.Sublist.cons_cons _ (List.nil_sublist _)), fun f hf => hf, rfl⟩ ?_
  rintro ⟨i, ws, bl⟩ ⟨hi, hs⟩
  simp only at hi hs ⊢
  refine J_seq ?_
  refine J_region ?_
  refine L_v rfl rfl rfl (V_lss rfl rfl rfl (by first | exact decide_eq_true (by omega) | exact decide_eq_false (by omega) | rfl)) ?_
  refine L_nil ?_
  change J _ _ _ _
  refine J_seq ?_
  refine J_cond rfl (fun h1 => ?_) (fun h1 => ?_)
  ·
    first | (have h1 := of_decide_eq_true h1) | (have h1 := of_decide_eq_false h1) | skip
    refine J_skip ?_
    change J _ _ _ _
    refine J_seq ?_
    refine J_block ?_
    refine J_seq ?_
    refine J_region ?_
    refine L_v rfl rfl rfl (V_indexC rfl rfl rfl Tryd.underlying24 sz26pj (fun w hw => (hw.fa 0 rfl).1) (by omega) (by omega)) ?_
    refine L_v rfl rfl rfl (V_loadCN (vs := dgM (l.getD i dz)) rfl rfl Tryd.underlying26 rfl (szd sz26pj (by kernel_rfl)) (fun w hw => (hw.fa 0 rfl).1) (by exact Nat.zero_lt_succ _) (rows_v (f := dgM) dz (sz := 31) (fun _ => rfl) (by omega))) ?_
    refine L_alloc rfl rfl rfl rfl z26pj (fun b2 => ?_)
    refine L_storeW 2 rfl rfl rfl rfl rfl rfl (szd sz26pj (by kernel_rfl)) (all_one (by kernel_rfl)) (by kernel_rfl) ?_
    refine L_nil ?_
    change J _ _ _ _
    refine J_region ?_
    refine L_v rfl rfl rfl (V_move rfl rfl) ?_
    refine L_v rfl rfl rfl (V_sliceArr rfl rfl Tryd.underlying26 sz5pj) ?_
    refine L_call rfl rfl rfl rfl tx60pj (fun w1 hw => (write_w b1 ws bl (m :: l2s (l.take i)) (l32 (l.getD i dz)) (some ⟨b2, 0, none⟩) 32 32 w1 (hw.at (i := 1) rfl) hs (SlB.of_mem' hw (i := 2) rfl rfl 32) (ap_own hw (i := 1) (j := 2) rfl rfl (by decide)) (getD_db hbl i) (Nat.le_refl _) (TabK.later hw (by simp) hK) (fun e => by have h1 : w.heap.size ≤ b1 := hw.ge rfl (i := 1) rfl; have h2 := hK.lt; omega) (by rw [List.length_cons, l2s_len, List.length_take, l32_len]; omega)).mono ?_)
    rintro e w' ⟨ws3, bl3, rfl, hfr3, hb3, hs3⟩
    refine ⟨_, _, _, rfl, hw.set (i := 1) rfl hfr3 hb3, rfl, ?_⟩
    refine L_nil ?_
    change J _ _ _ _
    refine J_region ?_
    refine L_v rfl rfl rfl (V_add rfl rfl rfl (by first | exact Go.IntWalk.i64_in _ (by omega) | rfl)) ?_
    refine L_v rfl rfl rfl (V_move rfl rfl) ?_
    refine L_nil ?_
    have e9 := l2s_next (l := l) (i := i) m (by omega)
    exact ⟨(i + 1, ws3, bl3), ⟨by show i + 1 ≤ l.length; omega, by show HS (m :: l2s (l.take (i + 1))) _ _; rw [e9]; exact hs3⟩, by show l.length - (i + 1) < l.length - i; omega, ⟨rfl, rfl, rfl, rfl, rfl, rfl, trivial⟩, (by show List.Sublist [_, (b1, row 157 (hL ws3.l bl3 ((m :: l2s (l.take (i + 1))).length : Int)))] _; rw [e9, List.length_append]; exact List.Sublist.cons_cons _ (List.Sublist.cons_cons _ (List.nil_sublist _))), fun f hf => hf, rfl⟩
  ·
    first | (have h1 := of_decide_eq_true h1) | (have h1 := of_decide_eq_false h1) | skip
    obtain rfl : i = l.length := by omega
    rw [List.take_length] at hs ⊢
    refine J_exit ?_
    change J _ _ _ _
    refine J_seq ?_
    refine J_region ?_
    refine L_v rfl rfl rfl (V_move rfl rfl) ?_
    refine L_v rfl rfl rfl (V_move rfl rfl) ?_
    refine L_callV rfl rfl rfl rfl rfl rfl tx61pj (fun w1 hw => hsum_d b1 ws bl (m :: l2s l) w1 (hw.at (i := 1) rfl) hs (TabK.later hw (by simp) hK) (by rw [List.length_cons, l2s_len]; omega)) ?_
    refine L_callV rfl rfl rfl rfl rfl rfl tx36pj (fun w1 hw => short_w (shD (m :: l2s l)) w1) ?_
    refine L_storeW 0 rfl rfl rfl rfl rfl rfl (szd sz26pj (by kernel_rfl)) (all_one (by kernel_rfl)) (by kernel_rfl) ?_
    refine L_nil ?_
    change J _ _ _ _
    refine J_ret ?_
    change Kret _ _ _ Exit.ret _
    refine ret1 rfl rfl (RV_c 0 rfl rfl Tryd.underlying26 rfl (szd sz26pj (by kernel_rfl))) ?_
    exact fun w' h => ⟨rfl, h.fr⟩

theorem summed5_b {m : Int} {l : List Dg} {d : Dg} (hd : shD (m :: l2s l) = d) (s : Sl) (w : World) (f1 : FA w (sbF l s)) (hB : l.length ≤ 1000) (hbm : Byt [m]) (hbl : ∀ f ∈ l, DB f) (hK : TabK KT 1 w) : Calls Tryd.prog 39 #[.int .i64 32, .int .u8 m, .slice s.1 l.length s.2] w fun e w' => e = .returned (.agg (dgM d).toArray) ∧ Fr [] w w' := by
  subst hd
  exact summed5_w m l s w f1 hB hbm hbl hK
theorem leaf5_w (p v d : Dg) (hd : shD (0 :: l2s [p, v]) = d) (w : World) (hp : DB p) (hv : DB v) (hK : TabK KT 1 w) :
    Calls Tryd.prog 15 #[.int .i64 32, .agg (lfM p v).toArray] w fun e w' => e = .returned (.agg (dgM d).toArray) ∧ Fr [] w w' := by
  have hbz : Byt [0] := by intro x hx; simp at hx; omega
  refine calls_of (args := [.int .i64 32, .agg (lfM p v).toArray]) ([]) ([]) ([]) Tryd.func15 rfl rfl (okW0 _ _ _ _) ?_
  refine J_seq ?_
  refine J_region ?_
  refine L_box rfl rfl rfl rfl rfl (fun b0 => ?_)
  refine L_alloc rfl rfl rfl rfl z26pj (fun b1 => ?_)
  refine L_nil ?_
  change J _ _ _ _
  refine J_seq ?_
  refine J_region ?_
  refine L_v rfl rfl rfl (V_move rfl rfl) ?_
  refine L_v rfl rfl rfl (V_fieldAddr rfl rfl Tryd.underlying82 rfl sz26pj rfl) ?_
  refine L_v rfl rfl rfl (V_loadT 0 (vs := dgM p) rfl rfl rfl Tryd.underlying26 rfl sz26pj (by kernel_rfl) (by kernel_rfl)) ?_
  refine L_v rfl rfl rfl (V_fieldAddr rfl rfl Tryd.underlying82 rfl sz26pj rfl) ?_
  refine L_v rfl rfl rfl (V_loadT 0 (vs := dgM v) rfl rfl rfl Tryd.underlying26 rfl sz26pj (by kernel_rfl) (by kernel_rfl)) ?_
  refine L_buildSlice (vs := [(0, .agg (dgM p).toArray), (1, .agg (dgM v).toArray)]) (l := ([p, v].map dgM).flatten) rfl rfl rfl rfl rfl (bs2d p v) (fun b2 => ?_)
  refine L_callV rfl rfl rfl rfl rfl rfl tx39pj (fun w1 hw => summed5_b hd (some ⟨b2, 0, none⟩, 2) w1 (fa_two hw (i := 2) rfl) (by simp) hbz (by intro f hf; rcases List.mem_cons.1 hf with rfl | hf; exact hp; obtain rfl := List.mem_singleton.1 hf; exact hv) (TabK.later hw (by simp) hK)) ?_
  refine L_storeW 1 rfl rfl rfl rfl rfl rfl (szd sz26pj (by kernel_rfl)) (all_one (by kernel_rfl)) (by kernel_rfl) ?_
  refine L_nil ?_
  change J _ _ _ _
  refine J_ret ?_
  change Kret _ _ _ Exit.ret _
  refine ret1 rfl rfl (RV_c 1 rfl rfl Tryd.underlying26 rfl (szd sz26pj (by kernel_rfl))) ?_
  exact fun w' h => ⟨rfl, h.fr⟩

end Go.Proofs.YtfdmjjhgdbpfeaaDoor

/- What the laws of layer 21 try first. -/
set_option linter.unusedVariables false
set_option linter.unusedSimpArgs false
set_option maxRecDepth 100000
namespace Go.Proofs.YtfdmjjhgdbpfeaaDoor
open Go.Sx
def uPL : List Int := [11, 254, 147, 94, 112, 195, 33, 199, 202, 58, 252, 117, 206, 13, 12, 162, 249, 139, 84, 34, 224, 8, 187, 49, 192, 12, 109, 127, 31, 28, 10, 214]
def uKL : List Int := [66, 174, 47, 122, 248, 101, 98, 175, 54, 153, 181, 7, 44, 25, 241, 251, 169, 102, 25, 56, 179, 60, 244, 26, 215, 63, 144, 187, 96, 38, 79, 189]
def uXL : List Int := [100, 126, 88, 10, 123, 218, 153, 247, 99, 198, 107, 113, 136, 251, 207, 187, 211, 26, 26, 163, 220, 115, 214, 229, 40, 87, 232, 161, 174, 183, 226, 224]
def uRL : List Int := [26, 246, 224, 24, 206, 8, 19, 157, 222, 30, 16, 242, 85, 242, 176, 76, 61, 4, 32, 208, 174, 48, 54, 75, 226, 19, 184, 16, 114, 242, 202, 30]
def uQL : List Int := [60, 125, 203, 223, 233, 157, 23, 74, 86, 194, 27, 0, 4, 18, 188, 232, 24, 49, 104, 52, 5, 236, 124, 63, 154, 229, 57, 33, 154, 117, 16, 21]
def uEL : List Int := [219, 193, 180, 201, 0, 255, 228, 141, 87, 91, 93, 165, 198, 56, 4, 1, 37, 246, 93, 176, 254, 62, 36, 73, 75, 118, 234, 152, 100, 87, 217, 134]
def uSL : List Int := [11, 219, 148, 86, 208, 113, 152, 26, 9, 155, 190, 97, 207, 251, 0, 153, 225, 116, 48, 114, 30, 243, 36, 92, 32, 155, 119, 128, 182, 254, 151, 205]
def uTL : List Int := [251, 60, 170, 10, 107, 4, 161, 121, 183, 139, 61, 174, 98, 207, 4, 170, 226, 9, 158, 205, 37, 51, 11, 81, 44, 36, 128, 85, 23, 140, 216, 237]
def kU : ByteArray := ⟨#[117]⟩
def kS : ByteArray := ⟨#[115]⟩
def kT : ByteArray := ⟨#[116]⟩
def vk : Vr := (1, 1, ⟨#[107]⟩)
def vx : Vr := (1, 1, ⟨#[120]⟩)
theorem q_p : shaP (bs kU) = uPL := by decide +kernel
theorem q_k : shaP (putB [vk]) = uKL := by decide +kernel
theorem q_x : shaP (putB [vx]) = uXL := by decide +kernel
theorem q_r : shaP (0 :: (uPL ++ uKL)) = uRL := by decide +kernel
theorem q_q : shaP (0 :: (uPL ++ uXL)) = uQL := by decide +kernel
theorem q_e : shaP [2] = uEL := by decide +kernel
theorem q_s : sgn kS 1 uRL zd = uSL := by decide +kernel
theorem q_t : sgn kT 1 uRL zd = uTL := by decide +kernel
theorem n_qr : uQL ≠ uRL := by decide +kernel
theorem n_er : uEL ≠ uRL := by decide +kernel
theorem n_ts : uTL ≠ uSL := by decide +kernel
abbrev rpV (l : List Vr) (g : Sg) : Rp := { rp0 with vers := l, head := g }
def rtD : Dg := shD (0 :: l2s [pathD kU, verD [vk]])
def snD : Dg := ofL (sgn kS 1 (l32 rtD) (l32 dz))
def sgA : Sg := ((1, rtD, dz), snD)
theorem l_p : l32 (pathD kU) = uPL := by unfold pathD; rw [l32_shD, q_p]
theorem l_k : l32 (verD [vk]) = uKL := by unfold verD; rw [l32_shD, q_k]
theorem l_x : l32 (verD [vx]) = uXL := by unfold verD; rw [l32_shD, q_x]
theorem l_r : l32 rtD = uRL := by
  unfold rtD
  rw [l32_shD, l2_two, l_p, l_k, q_r]
theorem l_s : l32 snD = uSL := by
  unfold snD
  rw [l32_ofL (sgn_len _ _ _ _), l_r, l32_dz, q_s]
theorem c_s : chkS kS sgA = 0 := by
  show chk kS 1 (l32 rtD) (l32 dz) (l32 snD) = 0
  unfold chk
  rw [if_pos ⟨by decide, by decide⟩, if_pos (by rw [l_r, l32_dz, l_s, q_s])]
theorem c_t : chkS kT sgA = 81 := by
  show chk kT 1 (l32 rtD) (l32 dz) (l32 snD) = 81
  unfold chk
  rw [if_pos ⟨by decide, by decide⟩, if_neg (by rw [l_r, l32_dz, l_s, q_t]; exact n_ts)]
theorem may_n {c : Cm} (h : c.1 = true ∨ c.2 = dz) : mayPf (pathD kU) c pf0 := ⟨⟨Nat.zero_le _, h⟩, rfl, rfl⟩
theorem pc_yes : pchk rtD (pathD kU) (clm [vk]) pf0 = 0 := by
  unfold pchk
  rw [if_pos (may_n (.inl rfl)), if_pos]
  show shD (startP (pathD kU) (true, verD [vk]) pf0) = rtD
  rw [st_1 rfl]
  rfl
theorem pc_no {c : Cm} (h : c.1 = true ∨ c.2 = dz) (hn : shaP (startP (pathD kU) c pf0) ≠ uRL) : pchk rtD (pathD kU) c pf0 = 41 := by
  unfold pchk
  rw [if_pos (may_n h), if_neg]
  intro h2
  have h3 : l32 (shD (startP (pathD kU) c pf0)) = l32 rtD := congrArg l32 h2
  rw [l32_shD, l_r] at h3
  exact hn h3
theorem e_1 : verE kS kU (rpV [vk] sgA) = 0 := by
  unfold verE
  rw [if_neg (fun h => h c_s), if_pos ⟨by kernel_rfl, by decide⟩]
  exact pc_yes
theorem e_2 : verE kT kU (rpV [vk] sgA) = 81 := by
  unfold verE
  rw [if_pos (by rw [c_t]; decide)]
  exact c_t
theorem e_3 : verE kS kU (rpV [vx] sgA) = 41 := by
  unfold verE
  rw [if_neg (fun h => h c_s), if_pos ⟨by kernel_rfl, by decide⟩]
  refine pc_no (.inl rfl) ?_
  rw [st_1 rfl, l2_two]
  show shaP (0 :: (l32 (pathD kU) ++ l32 (verD [vx]))) ≠ uRL
  rw [l_p, l_x, q_q]
  exact n_qr
theorem e_4 : verE kS kU (rpV [] sgA) = 41 := by
  unfold verE
  rw [if_neg (fun h => h c_s), if_pos ⟨by kernel_rfl, by decide⟩]
  refine pc_no (.inr rfl) ?_
  show shaP [2] ≠ uRL
  rw [q_e]
  exact n_er
theorem sg_b : SgD sgA := ⟨shD_byt _, zd_byt, by show Byt (l32 snD); unfold snD; rw [l32_ofL (sgn_len _ _ _ _)]; exact sgn_byt _ _ _ _⟩
theorem rpW_of {w : World} {l : List Vr} {g : Sg} {a : Option Addr} {c : Nat} (hl : l.length ≤ 16) (hs : SlC 3 w (.slice a l.length c) l.length (l.map vrM).flatten) (hc : l.length ≤ c) (hg : SgD g) : RpW w (rpV l g) (a, c) slN :=
  ⟨.and (.slc hs) (fa_nil1 rfl rfl), hc, hg, fun f hf => (by cases hf), zd_byt, zd_byt, by show l.length ≤ _; omega, Nat.zero_le _⟩
theorem of_e {s : ByteArray} {p : Dg} (h : pathD s = p) (w : World) (hK : TabK KT 1 w) (hs : s.size ≤ 1000000) : Calls Tryd.prog 12 #[.string s] w fun e w' => e = .returned (.agg (dgM p).toArray) ∧ Fr [] w w' := h ▸ of_d s w hK hs
theorem vdig_e {l : List Vr} {d : Dg} (hd : verD l = d) (s : Sl) (w : World) (hu : SlC 3 w (.slice s.1 l.length s.2) l.length (l.map vrM).flatten) (hc : l.length ≤ s.2) (h : isH l = true) (hK : TabK KT 1 w) : Calls Tryd.prog 10 #[.slice s.1 l.length s.2] w fun e w' => e = .returned (.tuple #[.agg (dgM d).toArray, .int .i64 0]) ∧ Fr [] w w' := hd ▸ vdig_d l s w (vcs_rows l ▸ hu) hc h hK
theorem sign_m {key : ByteArray} {h : Hd} {sn : Dg} (hsn : ofL (sgn key h.1 (l32 h.2.1) (l32 h.2.2)) = sn) (w : World) (h1 : DB h.2.1) (h2 : DB h.2.2) (hk : okK key = true) (he : okE h.1 = true) (hK : TabK KT 1 w) : Calls Tryd.prog 16 #[.string key, .agg (hdM h).toArray] w fun e w' => e = .returned (.tuple #[.agg (sgM (h, sn)).toArray, .int .i64 0]) ∧ Fr [] w w' := by
  subst hsn
  rw [show sgM (h, ofL (sgn key h.1 (l32 h.2.1) (l32 h.2.2))) = sgL h.1 (l32 h.2.1) (l32 h.2.2) (sgn key h.1 (l32 h.2.1) (l32 h.2.2)) from by unfold sgM sgL; rw [l32_ofL (sgn_len _ _ _ _)]; rfl]
  exact sign_ok key h.1 (l32 h.2.1) (l32 h.2.2) w rfl rfl h1 h2 hk he hK
theorem verify_e {key user : ByteArray} {x : Rp} {k : Int} (he : verE key user x = k) (v s : Sl) (w : World) (W : RpW w x v s) (hu : user.size ≤ 1000000) (hK : TabK KT 1 w) : Calls Tryd.prog 7 #[.string key, .string user, .agg (rpM x v s).toArray] w fun e w' => e = .returned (.int .i64 k) ∧ Fr [] w w' := he ▸ verify_w key user x v s w W hu hK
theorem bs1v (u : Vr) (w : World) : (Instr.buildSlice 23 1 [(0, .agg (vrM u).toArray)].toArray).run Tryd.prog w = .ok (.slice (some ⟨w.heap.size, 0, none⟩) 1 1) (w.alloc (row 79 (vrM u))) := by kernel_rfl
theorem sz23pk : (Tryd.prog.info? 23).map (·.size) = some 1 := by kernel_rfl
theorem sz26pk : (Tryd.prog.info? 26).map (·.size) = some 32 := by kernel_rfl
theorem sz32pk : (Tryd.prog.info? 32).map (·.size) = some 97 := by kernel_rfl
theorem sz34pk : (Tryd.prog.info? 34).map (·.size) = some 169 := by kernel_rfl
theorem tx7pk : Txt Tryd.prog 7 := txt_of Tryd.func7 rfl (by kernel_rfl)
theorem tx10pk : Txt Tryd.prog 10 := txt_of Tryd.func10 rfl (by kernel_rfl)
theorem tx12pk : Txt Tryd.prog 12 := txt_of Tryd.func12 rfl (by kernel_rfl)
theorem tx15pk : Txt Tryd.prog 15 := txt_of Tryd.func15 rfl (by kernel_rfl)
theorem tx16pk : Txt Tryd.prog 16 := txt_of Tryd.func16 rfl (by kernel_rfl)
theorem z26pk : (Tryd.prog.info? 26).bind (·.zero) = some (.agg (dgM dz).toArray) := by kernel_rfl
theorem z32pk : (Tryd.prog.info? 32).bind (·.zero) = some (.agg [.int .i64 0, .int .u8 0, .int .u8 0, .int .u8 0, .int .u8 0, .int .u8 0, .int .u8 0, .int .u8 0, .int .u8 0, .int .u8 0, .int .u8 0, .int .u8 0, .int .u8 0, .int .u8 0, .int .u8 0, .int .u8 0, .int .u8 0, .int .u8 0, .int .u8 0, .int .u8 0, .int .u8 0, .int .u8 0, .int .u8 0, .int .u8 0, .int .u8 0, .int .u8 0, .int .u8 0, .int .u8 0, .int .u8 0, .int .u8 0, .int .u8 0, .int .u8 0, .int .u8 0, .int .u8 0, .int .u8 0, .int .u8 0, .int .u8 0, .int .u8 0, .int .u8 0, .int .u8 0, .int .u8 0, .int .u8 0, .int .u8 0, .int .u8 0, .int .u8 0, .int .u8 0, .int .u8 0, .int .u8 0, .int .u8 0, .int .u8 0, .int .u8 0, .int .u8 0, .int .u8 0, .int .u8 0, .int .u8 0, .int .u8 0, .int .u8 0, .int .u8 0, .int .u8 0, .int .u8 0, .int .u8 0, .int .u8 0, .int .u8 0, .int .u8 0, .int .u8 0, .int .u8 0, .int .u8 0, .int .u8 0, .int .u8 0, .int .u8 0, .int .u8 0, .int .u8 0, .int .u8 0, .int .u8 0, .int .u8 0, .int .u8 0, .int .u8 0, .int .u8 0, .int .u8 0, .int .u8 0, .int .u8 0, .int .u8 0, .int .u8 0, .int .u8 0, .int .u8 0, .int .u8 0, .int .u8 0, .int .u8 0, .int .u8 0, .int .u8 0, .int .u8 0, .int .u8 0, .int .u8 0, .int .u8 0, .int .u8 0, .int .u8 0, .int .u8 0].toArray) := by kernel_rfl
theorem z34pk : (Tryd.prog.info? 34).bind (·.zero) = some (.agg [.int .i64 0, .int .i64 0, .int .i64 0, .int .i64 0, .int .i64 0, .slice none 0 0, .slice none 0 0, .bool false, .int .u8 0, .int .u8 0, .int .u8 0, .int .u8 0, .int .u8 0, .int .u8 0, .int .u8 0, .int .u8 0, .int .u8 0, .int .u8 0, .int .u8 0, .int .u8 0, .int .u8 0, .int .u8 0, .int .u8 0, .int .u8 0, .int .u8 0, .int .u8 0, .int .u8 0, .int .u8 0, .int .u8 0, .int .u8 0, .int .u8 0, .int .u8 0, .int .u8 0, .int .u8 0, .int .u8 0, .int .u8 0, .int .u8 0, .int .u8 0, .int .u8 0, .int .u8 0, .int .u8 0, .int .u8 0, .int .u8 0, .int .u8 0, .int .u8 0, .int .u8 0, .int .u8 0, .int .u8 0, .int .u8 0, .int .u8 0, .int .u8 0, .int .u8 0, .int .u8 0, .int .u8 0, .int .u8 0, .int .u8 0, .int .u8 0, .int .u8 0, .int .u8 0, .int .u8 0, .int .u8 0, .int .u8 0, .int .u8 0, .int .u8 0, .int .u8 0, .int .u8 0, .int .u8 0, .int .u8 0, .int .u8 0, .int .u8 0, .int .u8 0, .int .u8 0, .int .i64 0, .int .u8 0, .int .u8 0, .int .u8 0, .int .u8 0, .int .u8 0, .int .u8 0, .int .u8 0, .int .u8 0, .int .u8 0, .int .u8 0, .int .u8 0, .int .u8 0, .int .u8 0, .int .u8 0, .int .u8 0, .int .u8 0, .int .u8 0, .int .u8 0, .int .u8 0, .int .u8 0, .int .u8 0, .int .u8 0, .int .u8 0, .int .u8 0, .int .u8 0, .int .u8 0, .int .u8 0, .int .u8 0, .int .u8 0, .int .u8 0, .int .u8 0, .int .u8 0, .int .u8 0, .int .u8 0, .int .u8 0, .int .u8 0, .int .u8 0, .int .u8 0, .int .u8 0, .int .u8 0, .int .u8 0, .int .u8 0, .int .u8 0, .int .u8 0, .int .u8 0, .int .u8 0, .int .u8 0, .int .u8 0, .int .u8 0, .int .u8 0, .int .u8 0, .int .u8 0, .int .u8 0, .int .u8 0, .int .u8 0, .int .u8 0, .int .u8 0, .int .u8 0, .int .u8 0, .int .u8 0, .int .u8 0, .int .u8 0, .int .u8 0, .int .u8 0, .int .u8 0, .int .u8 0, .int .u8 0, .int .u8 0, .int .u8 0, .int .u8 0, .int .u8 0, .int .u8 0, .int .u8 0, .int .u8 0, .int .u8 0, .int .u8 0, .int .u8 0, .int .u8 0, .int .u8 0, .int .u8 0, .int .u8 0, .int .u8 0, .int .u8 0, .int .u8 0, .int .u8 0, .int .u8 0, .int .u8 0, .int .u8 0, .int .u8 0, .int .u8 0, .int .u8 0, .int .u8 0, .int .u8 0, .int .u8 0, .int .u8 0, .int .u8 0].toArray) := by kernel_rfl

set_option maxHeartbeats 4000000 in
theorem verifies_v (p dk rt sn : Dg) (hp : pathD kU = p) (hdk : verD [vk] = dk) (hrt : shD (0 :: l2s [p, dk]) = rt) (hsn : ofL (sgn kS 1 (l32 rt) (l32 dz)) = sn) (hpb : DB p) (hkb : DB dk) (hsg : SgD ((1, rt, dz), sn)) (E1 : verE kS kU (rpV [vk] ((1, rt, dz), sn)) = 0) (E2 : verE kT kU (rpV [vk] ((1, rt, dz), sn)) = 81) (E3 : verE kS kU (rpV [vx] ((1, rt, dz), sn)) = 41) (E4 : verE kS kU (rpV [] ((1, rt, dz), sn)) = 41) (w : World) (hK : TabK KT 1 w) :
    Calls Tryd.prog 6 #[] w fun e w' => e = .returned (.bool true) ∧ Fr [] w w' := by
  refine calls_of (args := []) ([]) ([]) ([]) Tryd.func6 rfl rfl (okW0 _ _ _ _) ?_
  refine J_seq ?_
  refine J_region ?_
  refine L_v rfl rfl rfl (V_assign rfl rfl) ?_
  refine L_nil ?_
  change J _ _ _ _
  refine J_seq ?_
  refine J_region ?_
  refine L_v rfl rfl rfl (V_buildE (v := .agg (vrM vk).toArray) rfl rfl (fun w => by kernel_rfl)) ?_
  refine L_buildSlice (vs := [(0, .agg (vrM vk).toArray)]) (l := vrM vk) rfl rfl rfl rfl rfl (bs1v vk) (fun b0 => ?_)
  refine L_v rfl rfl rfl (V_assign rfl rfl) ?_
  refine L_nil ?_
  change J _ _ _ _
  refine J_seq ?_
  refine J_region ?_
  refine L_v rfl rfl rfl (V_move rfl rfl) ?_
  refine L_callV rfl rfl rfl rfl rfl rfl tx10pk (fun w1 hw => vdig_e hdk (some ⟨b0, 0, none⟩, 1) w1 (slc_row hw (i := 0) (ks := vrM vk) rfl rfl 1) (Nat.le_refl 1) (by kernel_rfl) (TabK.later hw (by simp) hK)) ?_
  refine L_v rfl rfl rfl (V_move rfl rfl) ?_
  refine L_v rfl rfl rfl (V_extract rfl rfl rfl) ?_
  refine L_v rfl rfl rfl (V_extract rfl rfl rfl) ?_
  refine L_alloc rfl rfl rfl rfl z26pk (fun b1 => ?_)
  refine L_storeW 1 rfl rfl rfl rfl rfl rfl (szd sz26pk (by kernel_rfl)) (all_one (by kernel_rfl)) (by kernel_rfl) ?_
  refine L_v rfl rfl rfl (V_assign rfl rfl) ?_
  refine L_nil ?_
  change J _ _ _ _
  refine J_seq ?_
  refine J_regionO (.pure 1 (.two 0 (.pure 2 (.two 3 (.one 4 (.one 5 (.nil))) 4 (.one 3 (.one 5 (.nil))))) 4 (.one 0 (.pure 2 (.one 3 (.one 5 (.nil))))))) ([(b0, row 79 (vrM vk)), (b1, row 26 (dgM dk))]) _ (Pk.of_sub (List.Sublist.cons_cons _ (List.Sublist.cons_cons _ (List.nil_sublist _)))) (fun f hf => hf) rfl rfl (by kernel_rfl) ?_
  refine LO_v rfl rfl rfl rfl (V_loadT 1 (vs := dgM dk) rfl rfl rfl Tryd.underlying26 rfl sz26pk (by kernel_rfl) (by kernel_rfl)) ?_
  refine LO_both ?_ ?_
  ·
    refine LO_callV rfl rfl rfl rfl rfl rfl rfl rfl tx12pk (fun w1 hw => of_e hp w1 (TabK.later hw (by simp) hK) (by decide)) (Pk.of_sub (List.Sublist.cons_cons _ (List.Sublist.cons_cons _ (List.nil_sublist _)))) (fun f hf => hf) ?_
    refine LO_v rfl rfl rfl rfl (V_buildE (v := .agg (lfM p dk).toArray) rfl rfl (fun w => by kernel_rfl)) ?_
    refine LO_both ?_ ?_
    ·
      refine LO_callV rfl rfl rfl rfl rfl rfl rfl rfl tx15pk (fun w1 hw => leaf5_w p dk rt hrt w1 hpb hkb (TabK.later hw (by simp) hK)) (Pk.of_sub (List.Sublist.cons_cons _ (List.Sublist.cons_cons _ (List.nil_sublist _)))) (fun f hf => hf) ?_
      refine LO_s rfl rfl rfl (S_alloc rfl rfl rfl z26pk (fun b2 => ⟨(Pk.of_sub (List.Sublist.cons_cons _ (List.Sublist.cons_cons _ (List.nil_sublist _)))), (fun f hf => hf), ?_⟩))
      refine LO_s rfl rfl rfl (S_storeW 2 rfl rfl rfl rfl rfl (szd sz26pk (by kernel_rfl)) (all_one (by kernel_rfl)) (by kernel_rfl) ⟨(Pk.of_sub (List.Sublist.cons_cons _ (List.Sublist.cons_cons _ (List.nil_sublist _)))), (fun f hf => hf), ?_⟩)
      refine LO_nil ?_
      change J _ _ _ _
      refine J_seq ?_
      refine J_region ?_
      refine L_v rfl rfl rfl (V_loadT 2 (vs := dgM rt) rfl rfl rfl Tryd.underlying26 rfl sz26pk (by kernel_rfl) (by kernel_rfl)) ?_
      refine L_v rfl rfl rfl (V_buildE (v := .agg (hdM (1, rt, dz)).toArray) rfl rfl (fun w => by kernel_rfl)) ?_
      refine L_callV rfl rfl rfl rfl rfl rfl tx16pk (fun w1 hw => sign_m (h := (1, rt, dz)) hsn w1 hsg.1 zd_byt (by decide) (show okE 1 = true from by decide) (TabK.later hw (by simp) hK)) ?_
      refine L_v rfl rfl rfl (V_move rfl rfl) ?_
      refine L_v rfl rfl rfl (V_extract rfl rfl rfl) ?_
      refine L_v rfl rfl rfl (V_extract rfl rfl rfl) ?_
      refine L_alloc rfl rfl rfl rfl z32pk (fun b3 => ?_)
      refine L_storeW 3 rfl rfl rfl rfl rfl rfl (szd sz32pk (by kernel_rfl)) (all_one (by kernel_rfl)) (by kernel_rfl) ?_
      refine L_v rfl rfl rfl (V_assign rfl rfl) ?_
      refine L_nil ?_
      change J _ _ _ _
      refine J_seq ?_
      refine J_region ?_
      refine L_v rfl rfl rfl (V_move rfl rfl) ?_
      refine L_v rfl rfl rfl (V_loadT 3 (vs := sgM ((1, rt, dz), sn)) rfl rfl rfl Tryd.underlying32 rfl sz32pk (by kernel_rfl) (by kernel_rfl)) ?_
      refine L_v rfl rfl rfl (V_buildE (v := .agg (rpM (rpV [vk] ((1, rt, dz), sn)) (some ⟨b0, 0, none⟩, 1) slN).toArray) rfl rfl (fun w => by kernel_rfl)) ?_
      refine L_alloc rfl rfl rfl rfl z34pk (fun b4 => ?_)
      refine L_storeW 4 rfl rfl rfl rfl rfl rfl (szd sz34pk (by kernel_rfl)) (all_one (by kernel_rfl)) (by kernel_rfl) ?_
      refine L_nil ?_
      change J _ _ _ _
      refine J_seq ?_
      refine J_region ?_
      refine L_v rfl rfl rfl (V_loadT 4 (vs := rpM (rpV [vk] ((1, rt, dz), sn)) (some ⟨b0, 0, none⟩, 1) slN) rfl rfl rfl Tryd.underlying34 rfl sz34pk (by kernel_rfl) (by kernel_rfl)) ?_
      refine L_alloc rfl rfl rfl rfl z34pk (fun b5 => ?_)
      refine L_storeW 5 rfl rfl rfl rfl rfl rfl (szd sz34pk (by kernel_rfl)) (all_one (by kernel_rfl)) (by kernel_rfl) ?_
      refine L_nil ?_
      change J _ _ _ _
      refine J_seq ?_
      refine J_region ?_
      refine L_v rfl rfl rfl (V_buildE (v := .agg (vrM vx).toArray) rfl rfl (fun w => by kernel_rfl)) ?_
      refine L_buildSlice (vs := [(0, .agg (vrM vx).toArray)]) (l := vrM vx) rfl rfl rfl rfl rfl (bs1v vx) (fun b6 => ?_)
      refine L_v rfl rfl rfl (V_fieldAddr rfl rfl Tryd.underlying34 rfl sz23pk rfl) ?_
      refine L_store1 5 (l' := rpM (rpV [vx] ((1, rt, dz), sn)) (some ⟨b6, 0, none⟩, 1) slN) rfl rfl rfl rfl rfl rfl rfl sz23pk (Nat.le_of_ble_eq_true (by kernel_rfl)) (by kernel_rfl) ?_
      refine L_nil ?_
      change J _ _ _ _
      refine J_seq ?_
      refine J_region ?_
      refine L_v rfl rfl rfl (V_move rfl rfl) ?_
      refine L_v rfl rfl rfl (V_eql rfl rfl rfl (decide_eq_true rfl)) ?_
      refine L_v rfl rfl rfl (V_move rfl rfl) ?_
      refine L_wv rfl rfl rfl rfl rfl rfl (V_move rfl rfl) ?_
      refine L_wv rfl rfl rfl rfl rfl rfl (V_eql rfl rfl rfl (decide_eq_true rfl)) ?_
      first | refine L_v rfl rfl rfl (V_pickT rfl rfl rfl) ?_ | refine L_v rfl rfl rfl (V_pickF rfl rfl rfl) ?_
      refine L_v rfl rfl rfl (V_move rfl rfl) ?_
      refine L_wv rfl rfl rfl rfl rfl rfl (V_loadT 4 (vs := rpM (rpV [vk] ((1, rt, dz), sn)) (some ⟨b0, 0, none⟩, 1) slN) rfl rfl rfl Tryd.underlying34 rfl sz34pk (by kernel_rfl) (by kernel_rfl)) ?_
      refine L_wcallV rfl rfl rfl rfl rfl rfl rfl rfl rfl tx7pk (fun w1 hw => verify_e E1 _ _ w1 (rpW_of (l := [vk]) (by decide) (slc_row hw (i := 0) (ks := vrM vk) rfl rfl 1) (Nat.le_refl 1) hsg) (by decide) (TabK.later hw (by simp) hK)) ?_
      refine L_wv rfl rfl rfl rfl rfl rfl (V_eql rfl rfl rfl (decide_eq_true rfl)) ?_
      first | refine L_v rfl rfl rfl (V_pickT rfl rfl rfl) ?_ | refine L_v rfl rfl rfl (V_pickF rfl rfl rfl) ?_
      refine L_v rfl rfl rfl (V_move rfl rfl) ?_
      refine L_wv rfl rfl rfl rfl rfl rfl (V_loadT 4 (vs := rpM (rpV [vk] ((1, rt, dz), sn)) (some ⟨b0, 0, none⟩, 1) slN) rfl rfl rfl Tryd.underlying34 rfl sz34pk (by kernel_rfl) (by kernel_rfl)) ?_
      refine L_wcallV rfl rfl rfl rfl rfl rfl rfl rfl rfl tx7pk (fun w1 hw => verify_e E2 _ _ w1 (rpW_of (l := [vk]) (by decide) (slc_row hw (i := 0) (ks := vrM vk) rfl rfl 1) (Nat.le_refl 1) hsg) (by decide) (TabK.later hw (by simp) hK)) ?_
      refine L_wv rfl rfl rfl rfl rfl rfl (V_eql rfl rfl rfl (decide_eq_true rfl)) ?_
      first | refine L_v rfl rfl rfl (V_pickT rfl rfl rfl) ?_ | refine L_v rfl rfl rfl (V_pickF rfl rfl rfl) ?_
      refine L_v rfl rfl rfl (V_move rfl rfl) ?_
      refine L_wv rfl rfl rfl rfl rfl rfl (V_loadT 5 (vs := rpM (rpV [vx] ((1, rt, dz), sn)) (some ⟨b6, 0, none⟩, 1) slN) rfl rfl rfl Tryd.underlying34 rfl sz34pk (by kernel_rfl) (by kernel_rfl)) ?_
      refine L_wcallV rfl rfl rfl rfl rfl rfl rfl rfl rfl tx7pk (fun w1 hw => verify_e E3 _ _ w1 (rpW_of (l := [vx]) (by decide) (slc_row hw (i := 6) (ks := vrM vx) rfl rfl 1) (Nat.le_refl 1) hsg) (by decide) (TabK.later hw (by simp) hK)) ?_
      refine L_wv rfl rfl rfl rfl rfl rfl (V_eql rfl rfl rfl (decide_eq_true rfl)) ?_
      first | refine L_v rfl rfl rfl (V_pickT rfl rfl rfl) ?_ | refine L_v rfl rfl rfl (V_pickF rfl rfl rfl) ?_
      refine L_v rfl rfl rfl (V_move rfl rfl) ?_
      refine L_wv rfl rfl rfl rfl rfl rfl (V_loadT 3 (vs := sgM ((1, rt, dz), sn)) rfl rfl rfl Tryd.underlying32 rfl sz32pk (by kernel_rfl) (by kernel_rfl)) ?_
      refine L_wv rfl rfl rfl rfl rfl rfl (V_buildE (v := .agg (rpM (rpV [] ((1, rt, dz), sn)) slN slN).toArray) rfl rfl (fun w => by kernel_rfl)) ?_
      refine L_wcallV rfl rfl rfl rfl rfl rfl rfl rfl rfl tx7pk (fun w1 hw => verify_e E4 slN slN w1 (rpW_of (l := []) (by decide) (.inl ⟨rfl, rfl, none, 0, rfl⟩) (Nat.le_refl 0) hsg) (by decide) (TabK.later hw (by simp) hK)) ?_
      refine L_wv rfl rfl rfl rfl rfl rfl (V_eql rfl rfl rfl (decide_eq_true rfl)) ?_
      first | refine L_v rfl rfl rfl (V_pickT rfl rfl rfl) ?_ | refine L_v rfl rfl rfl (V_pickF rfl rfl rfl) ?_
      refine L_v rfl rfl rfl (V_assign rfl rfl) ?_
      refine L_nil ?_
      change J _ _ _ _
      refine J_ret ?_
      change Kret _ _ _ Exit.ret _
      refine ret1 rfl rfl (RV_t rfl) ?_
      exact fun w' h => ⟨rfl, h.fr⟩
    ·
      refine LO_s rfl rfl rfl (S_alloc rfl rfl rfl z26pk (fun b2 => ⟨(Pk.of_sub (List.Sublist.cons_cons _ (List.Sublist.cons_cons _ (List.nil_sublist _)))), (fun f hf => hf), ?_⟩))
      refine LO_callV rfl rfl rfl rfl rfl rfl rfl rfl tx15pk (fun w1 hw => leaf5_w p dk rt hrt w1 hpb hkb (TabK.later hw (by simp) hK)) (Pk.of_sub (List.Sublist.cons_cons _ (List.Sublist.cons_cons _ (List.nil_sublist _)))) (fun f hf => hf) ?_
      refine LO_s rfl rfl rfl (S_storeW 2 rfl rfl rfl rfl rfl (szd sz26pk (by kernel_rfl)) (all_one (by kernel_rfl)) (by kernel_rfl) ⟨(Pk.of_sub (List.Sublist.cons_cons _ (List.Sublist.cons_cons _ (List.nil_sublist _)))), (fun f hf => hf), ?_⟩)
      refine LO_nil ?_
      change J _ _ _ _
      refine J_seq ?_
      refine J_region ?_
      refine L_v rfl rfl rfl (V_loadT 2 (vs := dgM rt) rfl rfl rfl Tryd.underlying26 rfl sz26pk (by kernel_rfl) (by kernel_rfl)) ?_
      refine L_v rfl rfl rfl (V_buildE (v := .agg (hdM (1, rt, dz)).toArray) rfl rfl (fun w => by kernel_rfl)) ?_
      refine L_callV rfl rfl rfl rfl rfl rfl tx16pk (fun w1 hw => sign_m (h := (1, rt, dz)) hsn w1 hsg.1 zd_byt (by decide) (show okE 1 = true from by decide) (TabK.later hw (by simp) hK)) ?_
      refine L_v rfl rfl rfl (V_move rfl rfl) ?_
      refine L_v rfl rfl rfl (V_extract rfl rfl rfl) ?_
      refine L_v rfl rfl rfl (V_extract rfl rfl rfl) ?_
      refine L_alloc rfl rfl rfl rfl z32pk (fun b3 => ?_)
      refine L_storeW 3 rfl rfl rfl rfl rfl rfl (szd sz32pk (by kernel_rfl)) (all_one (by kernel_rfl)) (by kernel_rfl) ?_
      refine L_v rfl rfl rfl (V_assign rfl rfl) ?_
      refine L_nil ?_
      change J _ _ _ _
      refine J_seq ?_
      refine J_region ?_
      refine L_v rfl rfl rfl (V_move rfl rfl) ?_
      refine L_v rfl rfl rfl (V_loadT 3 (vs := sgM ((1, rt, dz), sn)) rfl rfl rfl Tryd.underlying32 rfl sz32pk (by kernel_rfl) (by kernel_rfl)) ?_
      refine L_v rfl rfl rfl (V_buildE (v := .agg (rpM (rpV [vk] ((1, rt, dz), sn)) (some ⟨b0, 0, none⟩, 1) slN).toArray) rfl rfl (fun w => by kernel_rfl)) ?_
      refine L_alloc rfl rfl rfl rfl z34pk (fun b4 => ?_)
      refine L_storeW 4 rfl rfl rfl rfl rfl rfl (szd sz34pk (by kernel_rfl)) (all_one (by kernel_rfl)) (by kernel_rfl) ?_
      refine L_nil ?_
      change J _ _ _ _
      refine J_seq ?_
      refine J_region ?_
      refine L_v rfl rfl rfl (V_loadT 4 (vs := rpM (rpV [vk] ((1, rt, dz), sn)) (some ⟨b0, 0, none⟩, 1) slN) rfl rfl rfl Tryd.underlying34 rfl sz34pk (by kernel_rfl) (by kernel_rfl)) ?_
      refine L_alloc rfl rfl rfl rfl z34pk (fun b5 => ?_)
      refine L_storeW 5 rfl rfl rfl rfl rfl rfl (szd sz34pk (by kernel_rfl)) (all_one (by kernel_rfl)) (by kernel_rfl) ?_
      refine L_nil ?_
      change J _ _ _ _
      refine J_seq ?_
      refine J_region ?_
      refine L_v rfl rfl rfl (V_buildE (v := .agg (vrM vx).toArray) rfl rfl (fun w => by kernel_rfl)) ?_
      refine L_buildSlice (vs := [(0, .agg (vrM vx).toArray)]) (l := vrM vx) rfl rfl rfl rfl rfl (bs1v vx) (fun b6 => ?_)
      refine L_v rfl rfl rfl (V_fieldAddr rfl rfl Tryd.underlying34 rfl sz23pk rfl) ?_
      refine L_store1 5 (l' := rpM (rpV [vx] ((1, rt, dz), sn)) (some ⟨b6, 0, none⟩, 1) slN) rfl rfl rfl rfl rfl rfl rfl sz23pk (Nat.le_of_ble_eq_true (by kernel_rfl)) (by kernel_rfl) ?_
      refine L_nil ?_
      change J _ _ _ _
      refine J_seq ?_
      refine J_region ?_
      refine L_v rfl rfl rfl (V_move rfl rfl) ?_
      refine L_v rfl rfl rfl (V_eql rfl rfl rfl (decide_eq_true rfl)) ?_
      refine L_v rfl rfl rfl (V_move rfl rfl) ?_
      refine L_wv rfl rfl rfl rfl rfl rfl (V_move rfl rfl) ?_
      refine L_wv rfl rfl rfl rfl rfl rfl (V_eql rfl rfl rfl (decide_eq_true rfl)) ?_
      first | refine L_v rfl rfl rfl (V_pickT rfl rfl rfl) ?_ | refine L_v rfl rfl rfl (V_pickF rfl rfl rfl) ?_
      refine L_v rfl rfl rfl (V_move rfl rfl) ?_
      refine L_wv rfl rfl rfl rfl rfl rfl (V_loadT 4 (vs := rpM (rpV [vk] ((1, rt, dz), sn)) (some ⟨b0, 0, none⟩, 1) slN) rfl rfl rfl Tryd.underlying34 rfl sz34pk (by kernel_rfl) (by kernel_rfl)) ?_
      refine L_wcallV rfl rfl rfl rfl rfl rfl rfl rfl rfl tx7pk (fun w1 hw => verify_e E1 _ _ w1 (rpW_of (l := [vk]) (by decide) (slc_row hw (i := 0) (ks := vrM vk) rfl rfl 1) (Nat.le_refl 1) hsg) (by decide) (TabK.later hw (by simp) hK)) ?_
      refine L_wv rfl rfl rfl rfl rfl rfl (V_eql rfl rfl rfl (decide_eq_true rfl)) ?_
      first | refine L_v rfl rfl rfl (V_pickT rfl rfl rfl) ?_ | refine L_v rfl rfl rfl (V_pickF rfl rfl rfl) ?_
      refine L_v rfl rfl rfl (V_move rfl rfl) ?_
      refine L_wv rfl rfl rfl rfl rfl rfl (V_loadT 4 (vs := rpM (rpV [vk] ((1, rt, dz), sn)) (some ⟨b0, 0, none⟩, 1) slN) rfl rfl rfl Tryd.underlying34 rfl sz34pk (by kernel_rfl) (by kernel_rfl)) ?_
      refine L_wcallV rfl rfl rfl rfl rfl rfl rfl rfl rfl tx7pk (fun w1 hw => verify_e E2 _ _ w1 (rpW_of (l := [vk]) (by decide) (slc_row hw (i := 0) (ks := vrM vk) rfl rfl 1) (Nat.le_refl 1) hsg) (by decide) (TabK.later hw (by simp) hK)) ?_
      refine L_wv rfl rfl rfl rfl rfl rfl (V_eql rfl rfl rfl (decide_eq_true rfl)) ?_
      first | refine L_v rfl rfl rfl (V_pickT rfl rfl rfl) ?_ | refine L_v rfl rfl rfl (V_pickF rfl rfl rfl) ?_
      refine L_v rfl rfl rfl (V_move rfl rfl) ?_
      refine L_wv rfl rfl rfl rfl rfl rfl (V_loadT 5 (vs := rpM (rpV [vx] ((1, rt, dz), sn)) (some ⟨b6, 0, none⟩, 1) slN) rfl rfl rfl Tryd.underlying34 rfl sz34pk (by kernel_rfl) (by kernel_rfl)) ?_
      refine L_wcallV rfl rfl rfl rfl rfl rfl rfl rfl rfl tx7pk (fun w1 hw => verify_e E3 _ _ w1 (rpW_of (l := [vx]) (by decide) (slc_row hw (i := 6) (ks := vrM vx) rfl rfl 1) (Nat.le_refl 1) hsg) (by decide) (TabK.later hw (by simp) hK)) ?_
      refine L_wv rfl rfl rfl rfl rfl rfl (V_eql rfl rfl rfl (decide_eq_true rfl)) ?_
      first | refine L_v rfl rfl rfl (V_pickT rfl rfl rfl) ?_ | refine L_v rfl rfl rfl (V_pickF rfl rfl rfl) ?_
      refine L_v rfl rfl rfl (V_move rfl rfl) ?_
      refine L_wv rfl rfl rfl rfl rfl rfl (V_loadT 3 (vs := sgM ((1, rt, dz), sn)) rfl rfl rfl Tryd.underlying32 rfl sz32pk (by kernel_rfl) (by kernel_rfl)) ?_
      refine L_wv rfl rfl rfl rfl rfl rfl (V_buildE (v := .agg (rpM (rpV [] ((1, rt, dz), sn)) slN slN).toArray) rfl rfl (fun w => by kernel_rfl)) ?_
      refine L_wcallV rfl rfl rfl rfl rfl rfl rfl rfl rfl tx7pk (fun w1 hw => verify_e E4 slN slN w1 (rpW_of (l := []) (by decide) (.inl ⟨rfl, rfl, none, 0, rfl⟩) (Nat.le_refl 0) hsg) (by decide) (TabK.later hw (by simp) hK)) ?_
      refine L_wv rfl rfl rfl rfl rfl rfl (V_eql rfl rfl rfl (decide_eq_true rfl)) ?_
      first | refine L_v rfl rfl rfl (V_pickT rfl rfl rfl) ?_ | refine L_v rfl rfl rfl (V_pickF rfl rfl rfl) ?_
      refine L_v rfl rfl rfl (V_assign rfl rfl) ?_
      refine L_nil ?_
      change J _ _ _ _
      refine J_ret ?_
      change Kret _ _ _ Exit.ret _
      refine ret1 rfl rfl (RV_t rfl) ?_
      exact fun w' h => ⟨rfl, h.fr⟩
  ·
    refine LO_s rfl rfl rfl (S_alloc rfl rfl rfl z26pk (fun b2 => ⟨(Pk.of_sub (List.Sublist.cons_cons _ (List.Sublist.cons_cons _ (List.nil_sublist _)))), (fun f hf => hf), ?_⟩))
    refine LO_callV rfl rfl rfl rfl rfl rfl rfl rfl tx12pk (fun w1 hw => of_e hp w1 (TabK.later hw (by simp) hK) (by decide)) (Pk.of_sub (List.Sublist.cons_cons _ (List.Sublist.cons_cons _ (List.nil_sublist _)))) (fun f hf => hf) ?_
    refine LO_v rfl rfl rfl rfl (V_buildE (v := .agg (lfM p dk).toArray) rfl rfl (fun w => by kernel_rfl)) ?_
    refine LO_callV rfl rfl rfl rfl rfl rfl rfl rfl tx15pk (fun w1 hw => leaf5_w p dk rt hrt w1 hpb hkb (TabK.later hw (by simp) hK)) (Pk.of_sub (List.Sublist.cons_cons _ (List.Sublist.cons_cons _ (List.nil_sublist _)))) (fun f hf => hf) ?_
    refine LO_s rfl rfl rfl (S_storeW 2 rfl rfl rfl rfl rfl (szd sz26pk (by kernel_rfl)) (all_one (by kernel_rfl)) (by kernel_rfl) ⟨(Pk.of_sub (List.Sublist.cons_cons _ (List.Sublist.cons_cons _ (List.nil_sublist _)))), (fun f hf => hf), ?_⟩)
    refine LO_nil ?_
    change J _ _ _ _
    refine J_seq ?_
    refine J_region ?_
    refine L_v rfl rfl rfl (V_loadT 2 (vs := dgM rt) rfl rfl rfl Tryd.underlying26 rfl sz26pk (by kernel_rfl) (by kernel_rfl)) ?_
    refine L_v rfl rfl rfl (V_buildE (v := .agg (hdM (1, rt, dz)).toArray) rfl rfl (fun w => by kernel_rfl)) ?_
    refine L_callV rfl rfl rfl rfl rfl rfl tx16pk (fun w1 hw => sign_m (h := (1, rt, dz)) hsn w1 hsg.1 zd_byt (by decide) (show okE 1 = true from by decide) (TabK.later hw (by simp) hK)) ?_
    refine L_v rfl rfl rfl (V_move rfl rfl) ?_
    refine L_v rfl rfl rfl (V_extract rfl rfl rfl) ?_
    refine L_v rfl rfl rfl (V_extract rfl rfl rfl) ?_
    refine L_alloc rfl rfl rfl rfl z32pk (fun b3 => ?_)
    refine L_storeW 3 rfl rfl rfl rfl rfl rfl (szd sz32pk (by kernel_rfl)) (all_one (by kernel_rfl)) (by kernel_rfl) ?_
    refine L_v rfl rfl rfl (V_assign rfl rfl) ?_
    refine L_nil ?_
    change J _ _ _ _
    refine J_seq ?_
    refine J_region ?_
    refine L_v rfl rfl rfl (V_move rfl rfl) ?_
    refine L_v rfl rfl rfl (V_loadT 3 (vs := sgM ((1, rt, dz), sn)) rfl rfl rfl Tryd.underlying32 rfl sz32pk (by kernel_rfl) (by kernel_rfl)) ?_
    refine L_v rfl rfl rfl (V_buildE (v := .agg (rpM (rpV [vk] ((1, rt, dz), sn)) (some ⟨b0, 0, none⟩, 1) slN).toArray) rfl rfl (fun w => by kernel_rfl)) ?_
    refine L_alloc rfl rfl rfl rfl z34pk (fun b4 => ?_)
    refine L_storeW 4 rfl rfl rfl rfl rfl rfl (szd sz34pk (by kernel_rfl)) (all_one (by kernel_rfl)) (by kernel_rfl) ?_
    refine L_nil ?_
    change J _ _ _ _
    refine J_seq ?_
    refine J_region ?_
    refine L_v rfl rfl rfl (V_loadT 4 (vs := rpM (rpV [vk] ((1, rt, dz), sn)) (some ⟨b0, 0, none⟩, 1) slN) rfl rfl rfl Tryd.underlying34 rfl sz34pk (by kernel_rfl) (by kernel_rfl)) ?_
    refine L_alloc rfl rfl rfl rfl z34pk (fun b5 => ?_)
    refine L_storeW 5 rfl rfl rfl rfl rfl rfl (szd sz34pk (by kernel_rfl)) (all_one (by kernel_rfl)) (by kernel_rfl) ?_
    refine L_nil ?_
    change J _ _ _ _
    refine J_seq ?_
    refine J_region ?_
    refine L_v rfl rfl rfl (V_buildE (v := .agg (vrM vx).toArray) rfl rfl (fun w => by kernel_rfl)) ?_
    refine L_buildSlice (vs := [(0, .agg (vrM vx).toArray)]) (l := vrM vx) rfl rfl rfl rfl rfl (bs1v vx) (fun b6 => ?_)
    refine L_v rfl rfl rfl (V_fieldAddr rfl rfl Tryd.underlying34 rfl sz23pk rfl) ?_
    refine L_store1 5 (l' := rpM (rpV [vx] ((1, rt, dz), sn)) (some ⟨b6, 0, none⟩, 1) slN) rfl rfl rfl rfl rfl rfl rfl sz23pk (Nat.le_of_ble_eq_true (by kernel_rfl)) (by kernel_rfl) ?_
    refine L_nil ?_
    change J _ _ _ _
    refine J_seq ?_
    refine J_region ?_
    refine L_v rfl rfl rfl (V_move rfl rfl) ?_
    refine L_v rfl rfl rfl (V_eql rfl rfl rfl (decide_eq_true rfl)) ?_
    refine L_v rfl rfl rfl (V_move rfl rfl) ?_
    refine L_wv rfl rfl rfl rfl rfl rfl (V_move rfl rfl) ?_
    refine L_wv rfl rfl rfl rfl rfl rfl (V_eql rfl rfl rfl (decide_eq_true rfl)) ?_
    first | refine L_v rfl rfl rfl (V_pickT rfl rfl rfl) ?_ | refine L_v rfl rfl rfl (V_pickF rfl rfl rfl) ?_
    refine L_v rfl rfl rfl (V_move rfl rfl) ?_
    refine L_wv rfl rfl rfl rfl rfl rfl (V_loadT 4 (vs := rpM (rpV [vk] ((1, rt, dz), sn)) (some ⟨b0, 0, none⟩, 1) slN) rfl rfl rfl Tryd.underlying34 rfl sz34pk (by kernel_rfl) (by kernel_rfl)) ?_
    refine L_wcallV rfl rfl rfl rfl rfl rfl rfl rfl rfl tx7pk (fun w1 hw => verify_e E1 _ _ w1 (rpW_of (l := [vk]) (by decide) (slc_row hw (i := 0) (ks := vrM vk) rfl rfl 1) (Nat.le_refl 1) hsg) (by decide) (TabK.later hw (by simp) hK)) ?_
    refine L_wv rfl rfl rfl rfl rfl rfl (V_eql rfl rfl rfl (decide_eq_true rfl)) ?_
    first | refine L_v rfl rfl rfl (V_pickT rfl rfl rfl) ?_ | refine L_v rfl rfl rfl (V_pickF rfl rfl rfl) ?_
    refine L_v rfl rfl rfl (V_move rfl rfl) ?_
    refine L_wv rfl rfl rfl rfl rfl rfl (V_loadT 4 (vs := rpM (rpV [vk] ((1, rt, dz), sn)) (some ⟨b0, 0, none⟩, 1) slN) rfl rfl rfl Tryd.underlying34 rfl sz34pk (by kernel_rfl) (by kernel_rfl)) ?_
    refine L_wcallV rfl rfl rfl rfl rfl rfl rfl rfl rfl tx7pk (fun w1 hw => verify_e E2 _ _ w1 (rpW_of (l := [vk]) (by decide) (slc_row hw (i := 0) (ks := vrM vk) rfl rfl 1) (Nat.le_refl 1) hsg) (by decide) (TabK.later hw (by simp) hK)) ?_
    refine L_wv rfl rfl rfl rfl rfl rfl (V_eql rfl rfl rfl (decide_eq_true rfl)) ?_
    first | refine L_v rfl rfl rfl (V_pickT rfl rfl rfl) ?_ | refine L_v rfl rfl rfl (V_pickF rfl rfl rfl) ?_
    refine L_v rfl rfl rfl (V_move rfl rfl) ?_
    refine L_wv rfl rfl rfl rfl rfl rfl (V_loadT 5 (vs := rpM (rpV [vx] ((1, rt, dz), sn)) (some ⟨b6, 0, none⟩, 1) slN) rfl rfl rfl Tryd.underlying34 rfl sz34pk (by kernel_rfl) (by kernel_rfl)) ?_
    refine L_wcallV rfl rfl rfl rfl rfl rfl rfl rfl rfl tx7pk (fun w1 hw => verify_e E3 _ _ w1 (rpW_of (l := [vx]) (by decide) (slc_row hw (i := 6) (ks := vrM vx) rfl rfl 1) (Nat.le_refl 1) hsg) (by decide) (TabK.later hw (by simp) hK)) ?_
    refine L_wv rfl rfl rfl rfl rfl rfl (V_eql rfl rfl rfl (decide_eq_true rfl)) ?_
    first | refine L_v rfl rfl rfl (V_pickT rfl rfl rfl) ?_ | refine L_v rfl rfl rfl (V_pickF rfl rfl rfl) ?_
    refine L_v rfl rfl rfl (V_move rfl rfl) ?_
    refine L_wv rfl rfl rfl rfl rfl rfl (V_loadT 3 (vs := sgM ((1, rt, dz), sn)) rfl rfl rfl Tryd.underlying32 rfl sz32pk (by kernel_rfl) (by kernel_rfl)) ?_
    refine L_wv rfl rfl rfl rfl rfl rfl (V_buildE (v := .agg (rpM (rpV [] ((1, rt, dz), sn)) slN slN).toArray) rfl rfl (fun w => by kernel_rfl)) ?_
    refine L_wcallV rfl rfl rfl rfl rfl rfl rfl rfl rfl tx7pk (fun w1 hw => verify_e E4 slN slN w1 (rpW_of (l := []) (by decide) (.inl ⟨rfl, rfl, none, 0, rfl⟩) (Nat.le_refl 0) hsg) (by decide) (TabK.later hw (by simp) hK)) ?_
    refine L_wv rfl rfl rfl rfl rfl rfl (V_eql rfl rfl rfl (decide_eq_true rfl)) ?_
    first | refine L_v rfl rfl rfl (V_pickT rfl rfl rfl) ?_ | refine L_v rfl rfl rfl (V_pickF rfl rfl rfl) ?_
    refine L_v rfl rfl rfl (V_assign rfl rfl) ?_
    refine L_nil ?_
    change J _ _ _ _
    refine J_ret ?_
    change Kret _ _ _ Exit.ret _
    refine ret1 rfl rfl (RV_t rfl) ?_
    exact fun w' h => ⟨rfl, h.fr⟩

theorem verifies_w (w : World) (hK : TabK KT 1 w) : Calls Tryd.prog 6 #[] w fun e w' => e = .returned (.bool true) ∧ Fr [] w w' := verifies_v _ _ _ _ rfl rfl rfl rfl (pathD_b _) (shD_byt _) sg_b e_1 e_2 e_3 e_4 w hK

end Go.Proofs.YtfdmjjhgdbpfeaaDoor

/- The law ClientVerifies: its walk. -/
set_option linter.unusedVariables false
set_option linter.unusedSimpArgs false
set_option maxRecDepth 100000
namespace Go.Proofs.YtfdmjjhgdbpfeaaDoor
open Go.Sx
abbrev RpD (x : Rp) : Prop := ((∀ f ∈ x.pf.sib, DB f) ∧ DB x.pf.path ∧ DB x.pf.val) ∧ (DB x.head.1.2.1 ∧ DB x.head.1.2.2) ∧ DB x.head.2
theorem rpw {w : World} {x : Rp} {v s : Sl} {p : Prop} [Decidable (bigRp x ∨ p)] (f1 : FA w (rpF x v s)) (hc : x.vers.length ≤ v.2) (hB : RpD x) (h : ¬ (bigRp x ∨ p)) : RpW w x v s := by
  have h1 : ¬ bigRp x := fun h1 => h (.inl h1)
  unfold bigRp at h1
  exact ⟨f1, hc, ⟨hB.2.1.1, hB.2.1.2, hB.2.2⟩, hB.1.1, hB.1.2.1, hB.1.2.2, by omega, by omega⟩
theorem sz34pl : (Tryd.prog.info? 34).map (·.size) = some 169 := by kernel_rfl
theorem tx5pl : Txt Tryd.prog 5 := txt_of Tryd.func5 rfl (by kernel_rfl)
theorem tx6pl : Txt Tryd.prog 6 := txt_of Tryd.func6 rfl (by kernel_rfl)
theorem tx7pl : Txt Tryd.prog 7 := txt_of Tryd.func7 rfl (by kernel_rfl)
theorem tx8pl : Txt Tryd.prog 8 := txt_of Tryd.func8 rfl (by kernel_rfl)

theorem ClientVerifies_w (key user : ByteArray) (x : Rp) (v s : Sl) (w : World) (f1 : FA w (rpF x v s)) (hcap : x.vers.length ≤ v.2) (hB : RpD x) (hK : TabK KT 1 w)(hR : TabK KT 0 w) :
    Calls Tryd.prog 3 #[.string key, .string user, .agg (rpM x v s).toArray] w fun e w' => e = .returned (.bool true) ∧ Fr [] w w' := by
  refine calls_of (args := [.string key, .string user, .agg (rpM x v s).toArray]) ([]) ([]) ([rpF x v s]) Tryd.func3 rfl rfl (okFW (.cons f1 .nil)) ?_
  refine J_seq ?_
  refine J_region ?_
  refine L_box rfl rfl rfl rfl rfl (fun b0 => ?_)
  refine L_v rfl rfl rfl (V_assign rfl rfl) ?_
  refine L_nil ?_
  change J _ _ _ _
  refine J_seq ?_
  refine J_seq ?_
  refine J_region ?_
  refine L_v rfl rfl rfl (V_buildE (v := .agg (ctM ct0 m50).toArray) rfl rfl (fun w => by kernel_rfl)) ?_
  refine L_v rfl rfl rfl (V_loadT 0 (vs := rpM x v s) rfl rfl rfl Tryd.underlying34 rfl sz34pl (by kernel_rfl) (by kernel_rfl)) ?_
  refine L_v rfl rfl rfl (V_buildE (v := .agg (msM (rMs x) (rM5 v s)).toArray) rfl rfl (fun w => by kernel_rfl)) ?_
  refine L_v rfl rfl rfl (V_move rfl rfl) ?_
  refine L_v rfl rfl rfl (V_move rfl rfl) ?_
  refine L_callV rfl rfl rfl rfl rfl rfl tx5pl (fun w1 hw => large_r x v s key user w1) ?_
  refine L_nil ?_
  change J _ _ _ _
  refine J_cond rfl (fun h1 => ?_) (fun h1 => ?_)
  ·
    first | (have h1 := of_decide_eq_true h1) | (have h1 := of_decide_eq_false h1) | skip
    refine J_seq ?_
    refine J_region ?_
    refine L_v rfl rfl rfl (V_assign rfl rfl) ?_
    refine L_nil ?_
    change J _ _ _ _
    refine J_ret ?_
    change Kret _ _ _ Exit.ret _
    refine ret1 rfl rfl (RV_t rfl) ?_
    exact fun w' h => ⟨rfl, h.fr⟩
  ·
    first | (have h1 := of_decide_eq_true h1) | (have h1 := of_decide_eq_false h1) | skip
    have h9 : ¬ (100000 < key.size ∨ 100000 < user.size) := fun h => h1 (.inr h)
    refine J_skip ?_
    change J _ _ _ _
    refine J_seq ?_
    refine J_regionO (.one 0 (.pure 1 (.pure 2 (.pure 3 (.pure 4 (.pure 6 (.pure 7 (.pure 8 (.one 5 (.one 9 (.pure 10 (.pure 11 (.pure 12 (.nil)))))))))))))) _ _ (Pk.refl _) (fun f hf => hf) rfl rfl (by kernel_rfl) ?_
    refine LO_callV rfl rfl rfl rfl rfl rfl rfl rfl tx6pl (fun w1 hw => verifies_w w1 (TabK.later hw (by simp) hK)) (Pk.refl _) (fun f hf => hf) ?_
    refine LO_v rfl rfl rfl rfl (V_move rfl rfl) ?_
    refine LO_wv rfl rfl rfl rfl rfl rfl rfl (V_move rfl rfl) ?_
    refine LO_wv rfl rfl rfl rfl rfl rfl rfl (V_move rfl rfl) ?_
    refine LO_wv rfl rfl rfl rfl rfl rfl rfl (V_loadT 0 (vs := rpM x v s) rfl rfl rfl Tryd.underlying34 rfl sz34pl (by kernel_rfl) (by kernel_rfl)) ?_
    refine LO_wv rfl rfl rfl rfl rfl rfl rfl (V_move rfl rfl) ?_
    refine LO_wv rfl rfl rfl rfl rfl rfl rfl (V_move rfl rfl) ?_
    refine LO_wv rfl rfl rfl rfl rfl rfl rfl (V_loadT 0 (vs := rpM x v s) rfl rfl rfl Tryd.underlying34 rfl sz34pl (by kernel_rfl) (by kernel_rfl)) ?_
    refine LO_wcallV rfl rfl rfl rfl rfl rfl rfl rfl rfl rfl rfl tx7pl (fun w1 hw => verify_w key user x v s w1 (rpw (hw.fa 0 rfl) hcap hB h1) (by omega) (TabK.later hw (by simp) hK)) (Pk.refl _) (fun f hf => hf) ?_
    refine LO_wcallV rfl rfl rfl rfl rfl rfl rfl rfl rfl rfl rfl tx8pl (fun w1 hw => rverify_w key user x v s w1 (rpw (hw.fa 0 rfl) hcap hB h1) (by omega) (TabK.later hw (by simp) hR)) (Pk.refl _) (fun f hf => hf) ?_
    refine LO_wv rfl rfl rfl rfl rfl rfl rfl (V_eql rfl rfl rfl (decide_eq_true rfl)) ?_
    first | refine LO_v rfl rfl rfl rfl (V_pickT rfl rfl rfl) ?_ | refine LO_v rfl rfl rfl rfl (V_pickF rfl rfl rfl) ?_
    refine LO_v rfl rfl rfl rfl (V_assign rfl rfl) ?_
    refine LO_nil ?_
    change J _ _ _ _
    refine J_ret ?_
    change Kret _ _ _ Exit.ret _
    refine ret1 rfl rfl (RV_t rfl) ?_
    exact fun w' h => ⟨rfl, h.fr⟩

end Go.Proofs.YtfdmjjhgdbpfeaaDoor
