/- Part 10 of the texts that the law leans on. -/
import Derived.Test.YtfdmjjhgdbpfeaaDoorCBa9
/- Is a reply more than is looked at? -/
set_option linter.unusedVariables false
set_option linter.unusedSimpArgs false
set_option maxRecDepth 100000
namespace Go.Proofs.YtfdmjjhgdbpfeaaDoor
open Go.Sx
def zST : List Value := [.int .i64 0, .int .i64 0, .int .i64 0, .int .i64 0, .int .i64 0, .int .i64 0, .slice none 0 0, .slice none 0 0, .string ByteArray.empty, .slice none 0 0, .slice none 0 0, .int .i64 0, .int .i64 0, .int .i64 0, .int .i64 0, .int .i64 0, .slice none 0 0, .slice none 0 0, .int .i64 0, .slice none 0 0, .slice none 0 0, .int .i64 0, .int .i64 0, .int .i64 0, .int .i64 0, .slice none 0 0, .slice none 0 0, .int .i64 0, .string ByteArray.empty, .bool false]
def zSV : List Value := [.int .i64 0, .int .i64 0, .int .i64 0, .int .i64 0, .slice none 0 0, .slice none 0 0, .string ByteArray.empty, .slice none 0 0, .slice none 0 0]
def zCL : List Value := [.slice none 0 0, .slice none 0 0]
def zSN : List Value := [.int .i64 0, .int .i64 0, .slice none 0 0, .slice none 0 0, .string ByteArray.empty]
def zPT : List Value := [.int .i64 0, .int .i64 0, .int .i64 0, .int .i64 0, .slice none 0 0, .slice none 0 0, .int .i64 0, .string ByteArray.empty, .bool false]
abbrev rMs (x : Rp) : Ms := { ms0 with reply := x }
abbrev rM5 (v s : Sl) : M5 := ⟨slN, slN, slN, v, s⟩
abbrev bigRp (x : Rp) : Prop := 1000 < x.vers.length ∨ 1000 < x.pf.sib.length
theorem sz9pi : (Tryd.prog.info? 9).map (·.size) = some 1 := by kernel_rfl
theorem sz23pi : (Tryd.prog.info? 23).map (·.size) = some 1 := by kernel_rfl
theorem sz24pi : (Tryd.prog.info? 24).map (·.size) = some 1 := by kernel_rfl
theorem sz28pi : (Tryd.prog.info? 28).map (·.size) = some 66 := by kernel_rfl
theorem sz34pi : (Tryd.prog.info? 34).map (·.size) = some 169 := by kernel_rfl
theorem sz37pi : (Tryd.prog.info? 37).map (·.size) = some 1 := by kernel_rfl
theorem sz38pi : (Tryd.prog.info? 38).map (·.size) = some 1 := by kernel_rfl
theorem sz40pi : (Tryd.prog.info? 40).map (·.size) = some 2 := by kernel_rfl
theorem sz43pi : (Tryd.prog.info? 43).map (·.size) = some 38 := by kernel_rfl
theorem sz46pi : (Tryd.prog.info? 46).map (·.size) = some 225 := by kernel_rfl
theorem sz66pi : (Tryd.prog.info? 66).map (·.size) = some 5 := by kernel_rfl
theorem sz67pi : (Tryd.prog.info? 67).map (·.size) = some 1 := by kernel_rfl
theorem sz69pi : (Tryd.prog.info? 69).map (·.size) = some 9 := by kernel_rfl
theorem sz70pi : (Tryd.prog.info? 70).map (·.size) = some 1 := by kernel_rfl
theorem sz71pi : (Tryd.prog.info? 71).map (·.size) = some 1 := by kernel_rfl
theorem sz72pi : (Tryd.prog.info? 72).map (·.size) = some 1 := by kernel_rfl
theorem sz74pi : (Tryd.prog.info? 74).map (·.size) = some 9 := by kernel_rfl
theorem tx14pi : Txt Tryd.prog 14 := txt_of Tryd.func14 rfl (by kernel_rfl)
theorem tx37pi : Txt Tryd.prog 37 := txt_of Tryd.func37 rfl (by kernel_rfl)
theorem tx38pi : Txt Tryd.prog 38 := txt_of Tryd.func38 rfl (by kernel_rfl)

theorem bigC_0 (w : World) :
    Calls Tryd.prog 38 #[.agg (zCL).toArray] w fun e w' => e = .returned (.bool false) ∧ Fr [] w w' := by
  refine calls_of (args := [.agg (zCL).toArray]) ([]) ([]) ([]) Tryd.func38 rfl rfl (okW0 _ _ _ _) ?_
  refine J_seq ?_
  refine J_region ?_
  refine L_box rfl rfl rfl rfl rfl (fun b0 => ?_)
  refine L_v rfl rfl rfl (V_assign rfl rfl) ?_
  refine L_nil ?_
  change J _ _ _ _
  refine J_seq ?_
  refine J_region ?_
  refine L_v rfl rfl rfl (V_fieldAddr rfl rfl Tryd.underlying40 rfl sz38pi rfl) ?_
  refine L_v rfl rfl rfl (V_load1 0 rfl rfl rfl Tryd.underlying38 rfl (by rfl)) ?_
  refine L_v rfl rfl rfl (V_len rfl rfl Tryd.underlying38 rfl) ?_
  refine L_v rfl rfl rfl (V_gtr rfl rfl rfl (by first | exact decide_eq_true (by omega) | exact decide_eq_false (by omega) | rfl)) ?_
  refine L_v rfl rfl rfl (V_move rfl rfl) ?_
  apply L_or 4 7 12
  · rfl
  · rfl
  · rfl
  · rfl
  · rfl
  · rfl
  · rfl
  · kernel_rfl
  · intro hb1 _ _ hk1
    refine L_wv rfl rfl rfl rfl rfl rfl (V_fieldAddr rfl rfl Tryd.underlying40 rfl sz38pi rfl) ?_
    refine L_wv rfl rfl rfl rfl rfl rfl (V_load1 0 rfl rfl rfl Tryd.underlying38 rfl (by rfl)) ?_
    refine L_wv rfl rfl rfl rfl rfl rfl (V_len rfl rfl Tryd.underlying38 rfl) ?_
    refine L_wv rfl rfl rfl rfl rfl rfl (V_gtr rfl rfl rfl (by first | exact decide_eq_true (by omega) | exact decide_eq_false (by omega) | rfl)) ?_
    exact hk1 _ ⟨rfl, (by first | simp only [St.put] | rfl), (by first | simp only [St.put] | rfl), (by first | simp only [St.put] | rfl), ext_cut 4 (by kernel_rfl) (by kernel_rfl)⟩
  refine L_v rfl rfl rfl (V_assign rfl rfl) ?_
  refine L_nil ?_
  change J _ _ _ _
  refine J_ret ?_
  change Kret _ _ _ Exit.ret _
  refine ret1 rfl rfl (RV_t rfl) ?_
  exact fun w' h => ⟨congrArg (fun b => Ending.returned (Value.bool b)) (by decide), h.fr⟩

theorem big14_0 (w : World) :
    Calls Tryd.prog 37 #[.agg (zSV).toArray, .slice none 0 0] w fun e w' => e = .returned (.bool false) ∧ Fr [] w w' := by
  refine calls_of (args := [.agg (zSV).toArray, .slice none 0 0]) ([]) ([]) ([]) Tryd.func37 rfl rfl (okW0 _ _ _ _) ?_
  refine J_seq ?_
  refine J_region ?_
  refine L_box rfl rfl rfl rfl rfl (fun b0 => ?_)
  refine L_v rfl rfl rfl (V_assign rfl rfl) ?_
  refine L_nil ?_
  change J _ _ _ _
  refine J_seq ?_
  refine J_seq ?_
  refine J_region ?_
  refine L_v rfl rfl rfl (V_fieldAddr rfl rfl Tryd.underlying69 rfl sz37pi rfl) ?_
  refine L_v rfl rfl rfl (V_load1 0 rfl rfl rfl Tryd.underlying37 rfl (by rfl)) ?_
  refine L_v rfl rfl rfl (V_len rfl rfl Tryd.underlying37 rfl) ?_
  refine L_v rfl rfl rfl (V_gtr rfl rfl rfl (by first | exact decide_eq_true (by omega) | exact decide_eq_false (by omega) | rfl)) ?_
  refine L_v rfl rfl rfl (V_move rfl rfl) ?_
  apply L_or 3 12 16
  · rfl
  · rfl
  · rfl
  · rfl
  · rfl
  · rfl
  · rfl
  · kernel_rfl
  · intro hb1 _ _ hk1
    refine L_wv rfl rfl rfl rfl rfl rfl (V_move rfl rfl) ?_
    refine L_wv rfl rfl rfl rfl rfl rfl (V_len rfl rfl Tryd.underlying37 rfl) ?_
    refine L_wv rfl rfl rfl rfl rfl rfl (V_gtr rfl rfl rfl (by first | exact decide_eq_true (by omega) | exact decide_eq_false (by omega) | rfl)) ?_
    exact hk1 _ ⟨rfl, (by first | simp only [St.put] | rfl), (by first | simp only [St.put] | rfl), (by first | simp only [St.put] | rfl), ext_cut 3 (by kernel_rfl) (by kernel_rfl)⟩
  refine L_v rfl rfl rfl (V_move rfl rfl) ?_
  apply L_or 4 17 22
  · rfl
  · rfl
  · rfl
  · rfl
  · rfl
  · rfl
  · rfl
  · kernel_rfl
  · intro hb2 _ _ hk2
    refine L_wv rfl rfl rfl rfl rfl rfl (V_fieldAddr rfl rfl Tryd.underlying69 rfl sz67pi rfl) ?_
    refine L_wv rfl rfl rfl rfl rfl rfl (V_load1 0 rfl rfl rfl Tryd.underlying67 rfl (by rfl)) ?_
    refine L_wv rfl rfl rfl rfl rfl rfl (V_len rfl rfl Tryd.underlying67 rfl) ?_
    refine L_wv rfl rfl rfl rfl rfl rfl (V_gtr rfl rfl rfl (by first | exact decide_eq_true (by omega) | exact decide_eq_false (by omega) | rfl)) ?_
    exact hk2 _ ⟨rfl, (by first | simp only [St.put] | rfl), (by first | simp only [St.put] | rfl), (by first | simp only [St.put] | rfl), ext_cut 4 (by kernel_rfl) (by kernel_rfl)⟩
  refine L_v rfl rfl rfl (V_move rfl rfl) ?_
  apply L_or 4 23 28
  · rfl
  · rfl
  · rfl
  · rfl
  · rfl
  · rfl
  · rfl
  · kernel_rfl
  · intro hb3 _ _ hk3
    refine L_wv rfl rfl rfl rfl rfl rfl (V_fieldAddr rfl rfl Tryd.underlying69 rfl sz66pi rfl) ?_
    refine L_wv rfl rfl rfl rfl rfl rfl (V_fieldAddr rfl rfl Tryd.underlying66 rfl sz40pi rfl) ?_
    refine L_wv rfl rfl rfl rfl rfl rfl (V_loadT 0 (vs := zCL) rfl rfl rfl Tryd.underlying40 rfl sz40pi (by kernel_rfl) (by kernel_rfl)) ?_
    refine L_wcallV rfl rfl rfl rfl rfl rfl rfl rfl rfl tx38pi (fun w1 hw => bigC_0 w1) ?_
    exact hk3 _ ⟨rfl, (by first | simp only [St.put] | rfl), (by first | simp only [St.put] | rfl), (by first | simp only [St.put] | rfl), ext_cut 4 (by kernel_rfl) (by kernel_rfl)⟩
  refine L_nil ?_
  change J _ _ _ _
  refine J_false rfl ?_
  refine J_skip ?_
  change J _ _ _ _
  refine J_seq ?_
  refine J_region ?_
  refine L_v rfl rfl rfl (V_assign rfl rfl) ?_
  refine L_nil ?_
  change J _ _ _ _
  refine J_seq ?_
  refine J_seq ?_
  refine J_region ?_
  refine L_v rfl rfl rfl (V_assign rfl rfl) ?_
  refine L_nil ?_
  change J _ _ _ _
  refine J_block ?_
  refine J_loop (X := Unit) (fun _ => { env := [(1, .slice none 0 0), (2, .pointer (some ⟨b0, 0, none⟩)), (5, .int .i64 0), (6, .int .i64 0)], mem := [(b0, row 69 (zSV))] }) (fun _ => True) (fun _ => 0) () trivial ⟨⟨rfl, rfl, rfl, rfl, trivial⟩, List.Sublist.refl _, fun f hf => hf, rfl⟩ ?_
  rintro _ _
  refine J_seq ?_
  refine J_seq ?_
  refine J_region ?_
  refine L_v rfl rfl rfl (V_move rfl rfl) ?_
  refine L_v rfl rfl rfl (V_fieldAddr rfl rfl Tryd.underlying69 rfl sz37pi rfl) ?_
  refine L_v rfl rfl rfl (V_load1 0 rfl rfl rfl Tryd.underlying37 rfl (by rfl)) ?_
  refine L_v rfl rfl rfl (V_len rfl rfl Tryd.underlying37 rfl) ?_
  refine L_v rfl rfl rfl (V_lss rfl rfl rfl (by first | exact decide_eq_true (by omega) | exact decide_eq_false (by omega) | rfl)) ?_
  refine L_v rfl rfl rfl (V_move rfl rfl) ?_
  apply L_and 2 34 37
  · rfl
  · rfl
  · rfl
  · rfl
  · rfl
  · rfl
  · rfl
  · kernel_rfl
  · intro hb4 _ _ hk4
    refine L_wv rfl rfl rfl rfl rfl rfl (V_move rfl rfl) ?_
    refine L_wv rfl rfl rfl rfl rfl rfl (V_leq rfl rfl rfl (by first | exact decide_eq_true (by omega) | exact decide_eq_false (by omega) | rfl)) ?_
    exact hk4 _ ⟨rfl, (by first | simp only [St.put] | rfl), (by first | simp only [St.put] | rfl), (by first | simp only [St.put] | rfl), ext_cut 2 (by kernel_rfl) (by kernel_rfl)⟩
  refine L_nil ?_
  change J _ _ _ _
  refine J_false rfl ?_
  refine J_exit ?_
  change J _ _ _ _
  refine J_seq ?_
  refine J_seq ?_
  refine J_region ?_
  refine L_v rfl rfl rfl (V_assign rfl rfl) ?_
  refine L_nil ?_
  change J _ _ _ _
  refine J_block ?_
  refine J_loop (X := Unit) (fun _ => { env := [(1, .slice none 0 0), (2, .pointer (some ⟨b0, 0, none⟩)), (5, .int .i64 0), (7, .int .i64 0)], mem := [(b0, row 69 (zSV))] }) (fun _ => True) (fun _ => 0) () trivial ⟨⟨rfl, rfl, rfl, rfl, trivial⟩, List.Sublist.refl _, fun f hf => hf, rfl⟩ ?_
  rintro _ _
  refine J_seq ?_
  refine J_seq ?_
  refine J_region ?_
  refine L_v rfl rfl rfl (V_move rfl rfl) ?_
  refine L_v rfl rfl rfl (V_move rfl rfl) ?_
  refine L_v rfl rfl rfl (V_len rfl rfl Tryd.underlying37 rfl) ?_
  refine L_v rfl rfl rfl (V_lss rfl rfl rfl (by first | exact decide_eq_true (by omega) | exact decide_eq_false (by omega) | rfl)) ?_
  refine L_v rfl rfl rfl (V_move rfl rfl) ?_
  apply L_and 2 65 68
  · rfl
  · rfl
  · rfl
  · rfl
  · rfl
  · rfl
  · rfl
  · kernel_rfl
  · intro hb5 _ _ hk5
    refine L_wv rfl rfl rfl rfl rfl rfl (V_move rfl rfl) ?_
    refine L_wv rfl rfl rfl rfl rfl rfl (V_leq rfl rfl rfl (by first | exact decide_eq_true (by omega) | exact decide_eq_false (by omega) | rfl)) ?_
    exact hk5 _ ⟨rfl, (by first | simp only [St.put] | rfl), (by first | simp only [St.put] | rfl), (by first | simp only [St.put] | rfl), ext_cut 2 (by kernel_rfl) (by kernel_rfl)⟩
  refine L_nil ?_
  change J _ _ _ _
  refine J_false rfl ?_
  refine J_exit ?_
  change J _ _ _ _
  refine J_seq ?_
  refine J_region ?_
  refine L_v rfl rfl rfl (V_move rfl rfl) ?_
  refine L_v rfl rfl rfl (V_gtr rfl rfl rfl (by first | exact decide_eq_true (by omega) | exact decide_eq_false (by omega) | rfl)) ?_
  refine L_v rfl rfl rfl (V_assign rfl rfl) ?_
  refine L_nil ?_
  change J _ _ _ _
  refine J_ret ?_
  change Kret _ _ _ Exit.ret _
  refine ret1 rfl rfl (RV_t rfl) ?_
  exact fun w' h => ⟨congrArg (fun b => Ending.returned (Value.bool b)) (by decide), h.fr⟩

set_option maxHeartbeats 1000000 in
theorem big17_r (x : Rp) (v s : Sl) (w : World) :
    Calls Tryd.prog 14 #[.agg (zST).toArray, .agg (msM (rMs x) (rM5 v s)).toArray] w fun e w' => e = .returned (.bool (decide (bigRp x))) ∧ Fr [] w w' := by
  refine calls_of (args := [.agg (zST).toArray, .agg (msM (rMs x) (rM5 v s)).toArray]) ([]) ([]) ([]) Tryd.func14 rfl rfl (okW0 _ _ _ _) ?_
  refine J_seq ?_
  refine J_region ?_
  refine L_box rfl rfl rfl rfl rfl (fun b0 => ?_)
  refine L_box rfl rfl rfl rfl rfl (fun b1 => ?_)
  refine L_v rfl rfl rfl (V_assign rfl rfl) ?_
  refine L_nil ?_
  change J _ _ _ _
  refine J_seq ?_
  refine J_seq ?_
  refine J_region ?_
  refine L_v rfl rfl rfl (V_fieldAddr rfl rfl Tryd.underlying76 rfl sz38pi rfl) ?_
  refine L_v rfl rfl rfl (V_load1 0 rfl rfl rfl Tryd.underlying38 rfl (by rfl)) ?_
  refine L_v rfl rfl rfl (V_len rfl rfl Tryd.underlying38 rfl) ?_
  refine L_v rfl rfl rfl (V_gtr rfl rfl rfl (by first | exact decide_eq_true (by omega) | exact decide_eq_false (by omega) | rfl)) ?_
  refine L_v rfl rfl rfl (V_move rfl rfl) ?_
  apply L_or 4 9 14
  · rfl
  · rfl
  · rfl
  · rfl
  · rfl
  · rfl
  · rfl
  · kernel_rfl
  · intro hb1 _ _ hk1
    refine L_wv rfl rfl rfl rfl rfl rfl (V_fieldAddr rfl rfl Tryd.underlying76 rfl sz70pi rfl) ?_
    refine L_wv rfl rfl rfl rfl rfl rfl (V_load1 0 rfl rfl rfl Tryd.underlying70 rfl (by rfl)) ?_
    refine L_wv rfl rfl rfl rfl rfl rfl (V_len rfl rfl Tryd.underlying70 rfl) ?_
    refine L_wv rfl rfl rfl rfl rfl rfl (V_gtr rfl rfl rfl (by first | exact decide_eq_true (by omega) | exact decide_eq_false (by omega) | rfl)) ?_
    exact hk1 _ ⟨rfl, (by first | simp only [St.put] | rfl), (by first | simp only [St.put] | rfl), (by first | simp only [St.put] | rfl), ext_cut 4 (by kernel_rfl) (by kernel_rfl)⟩
  refine L_v rfl rfl rfl (V_move rfl rfl) ?_
  apply L_or 4 15 20
  · rfl
  · rfl
  · rfl
  · rfl
  · rfl
  · rfl
  · rfl
  · kernel_rfl
  · intro hb2 _ _ hk2
    refine L_wv rfl rfl rfl rfl rfl rfl (V_fieldAddr rfl rfl Tryd.underlying76 rfl sz71pi rfl) ?_
    refine L_wv rfl rfl rfl rfl rfl rfl (V_load1 0 rfl rfl rfl Tryd.underlying71 rfl (by rfl)) ?_
    refine L_wv rfl rfl rfl rfl rfl rfl (V_len rfl rfl Tryd.underlying71 rfl) ?_
    refine L_wv rfl rfl rfl rfl rfl rfl (V_gtr rfl rfl rfl (by first | exact decide_eq_true (by omega) | exact decide_eq_false (by omega) | rfl)) ?_
    exact hk2 _ ⟨rfl, (by first | simp only [St.put] | rfl), (by first | simp only [St.put] | rfl), (by first | simp only [St.put] | rfl), ext_cut 4 (by kernel_rfl) (by kernel_rfl)⟩
  refine L_v rfl rfl rfl (V_move rfl rfl) ?_
  apply L_or 4 21 26
  · rfl
  · rfl
  · rfl
  · rfl
  · rfl
  · rfl
  · rfl
  · kernel_rfl
  · intro hb3 _ _ hk3
    refine L_wv rfl rfl rfl rfl rfl rfl (V_fieldAddr rfl rfl Tryd.underlying76 rfl sz72pi rfl) ?_
    refine L_wv rfl rfl rfl rfl rfl rfl (V_load1 0 rfl rfl rfl Tryd.underlying72 rfl (by rfl)) ?_
    refine L_wv rfl rfl rfl rfl rfl rfl (V_len rfl rfl Tryd.underlying72 rfl) ?_
    refine L_wv rfl rfl rfl rfl rfl rfl (V_gtr rfl rfl rfl (by first | exact decide_eq_true (by omega) | exact decide_eq_false (by omega) | rfl)) ?_
    exact hk3 _ ⟨rfl, (by first | simp only [St.put] | rfl), (by first | simp only [St.put] | rfl), (by first | simp only [St.put] | rfl), ext_cut 4 (by kernel_rfl) (by kernel_rfl)⟩
  refine L_v rfl rfl rfl (V_move rfl rfl) ?_
  apply L_or 5 27 33
  · rfl
  · rfl
  · rfl
  · rfl
  · rfl
  · rfl
  · rfl
  · kernel_rfl
  · intro hb4 _ _ hk4
    refine L_wv rfl rfl rfl rfl rfl rfl (V_fieldAddr rfl rfl Tryd.underlying76 rfl sz74pi rfl) ?_
    refine L_wv rfl rfl rfl rfl rfl rfl (V_fieldAddr rfl rfl Tryd.underlying74 rfl sz9pi rfl) ?_
    refine L_wv rfl rfl rfl rfl rfl rfl (V_load1 0 rfl rfl rfl Tryd.underlying9 rfl (by rfl)) ?_
    refine L_wv rfl rfl rfl rfl rfl rfl (V_lenS rfl rfl Tryd.underlying9 rfl) ?_
    refine L_wv rfl rfl rfl rfl rfl rfl (V_gtr rfl rfl rfl (by first | exact decide_eq_true (by omega) | exact decide_eq_false (by omega) | rfl)) ?_
    exact hk4 _ ⟨rfl, (by first | simp only [St.put] | rfl), (by first | simp only [St.put] | rfl), (by first | simp only [St.put] | rfl), ext_cut 5 (by kernel_rfl) (by kernel_rfl)⟩
  refine L_v rfl rfl rfl (V_move rfl rfl) ?_
  apply L_or 4 34 39
  · rfl
  · rfl
  · rfl
  · rfl
  · rfl
  · rfl
  · rfl
  · kernel_rfl
  · intro hb5 _ _ hk5
    refine L_wv rfl rfl rfl rfl rfl rfl (V_fieldAddr rfl rfl Tryd.underlying46 rfl sz9pi rfl) ?_
    refine L_wv rfl rfl rfl rfl rfl rfl (V_load1 1 rfl rfl rfl Tryd.underlying9 rfl (by rfl)) ?_
    refine L_wv rfl rfl rfl rfl rfl rfl (V_lenS rfl rfl Tryd.underlying9 rfl) ?_
    refine L_wv rfl rfl rfl rfl rfl rfl (V_gtr rfl rfl rfl (by first | exact decide_eq_true (by omega) | exact decide_eq_false (by omega) | rfl)) ?_
    exact hk5 _ ⟨rfl, (by first | simp only [St.put] | rfl), (by first | simp only [St.put] | rfl), (by first | simp only [St.put] | rfl), ext_cut 4 (by kernel_rfl) (by kernel_rfl)⟩
  refine L_v rfl rfl rfl (V_move rfl rfl) ?_
  apply L_or 6 40 47
  · rfl
  · rfl
  · rfl
  · rfl
  · rfl
  · rfl
  · rfl
  · kernel_rfl
  · intro hb6 _ _ hk6
    refine L_wv rfl rfl rfl rfl rfl rfl (V_fieldAddr rfl rfl Tryd.underlying76 rfl sz69pi rfl) ?_
    refine L_wv rfl rfl rfl rfl rfl rfl (V_fieldAddr rfl rfl Tryd.underlying69 rfl sz66pi rfl) ?_
    refine L_wv rfl rfl rfl rfl rfl rfl (V_fieldAddr rfl rfl Tryd.underlying66 rfl sz9pi rfl) ?_
    refine L_wv rfl rfl rfl rfl rfl rfl (V_load1 0 rfl rfl rfl Tryd.underlying9 rfl (by rfl)) ?_
    refine L_wv rfl rfl rfl rfl rfl rfl (V_lenS rfl rfl Tryd.underlying9 rfl) ?_
    refine L_wv rfl rfl rfl rfl rfl rfl (V_gtr rfl rfl rfl (by first | exact decide_eq_true (by omega) | exact decide_eq_false (by omega) | rfl)) ?_
    exact hk6 _ ⟨rfl, (by first | simp only [St.put] | rfl), (by first | simp only [St.put] | rfl), (by first | simp only [St.put] | rfl), ext_cut 6 (by kernel_rfl) (by kernel_rfl)⟩
  refine L_nil ?_
  change J _ _ _ _
  refine J_false rfl ?_
  refine J_skip ?_
  change J _ _ _ _
  refine J_seq ?_
  refine J_region ?_
  refine L_v rfl rfl rfl (V_fieldAddr rfl rfl Tryd.underlying76 rfl sz69pi rfl) ?_
  refine L_v rfl rfl rfl (V_loadT 0 (vs := zSV) rfl rfl rfl Tryd.underlying69 rfl sz69pi (by kernel_rfl) (by kernel_rfl)) ?_
  refine L_v rfl rfl rfl (V_fieldAddr rfl rfl Tryd.underlying46 rfl sz37pi rfl) ?_
  refine L_v rfl rfl rfl (V_load1 1 rfl rfl rfl Tryd.underlying37 rfl (by rfl)) ?_
  refine L_callV rfl rfl rfl rfl rfl rfl tx37pi (fun w1 hw => big14_0 w1) ?_
  refine L_v rfl rfl rfl (V_move rfl rfl) ?_
  apply L_or 4 53 58
  · rfl
  · rfl
  · rfl
  · rfl
  · rfl
  · rfl
  · rfl
  · kernel_rfl
  · intro hb7 _ _ hk7
    refine L_wv rfl rfl rfl rfl rfl rfl (V_fieldAddr rfl rfl Tryd.underlying76 rfl sz74pi rfl) ?_
    refine L_wv rfl rfl rfl rfl rfl rfl (V_fieldAddr rfl rfl Tryd.underlying74 rfl sz40pi rfl) ?_
    refine L_wv rfl rfl rfl rfl rfl rfl (V_loadT 0 (vs := zCL) rfl rfl rfl Tryd.underlying40 rfl sz40pi (by kernel_rfl) (by kernel_rfl)) ?_
    refine L_wcallV rfl rfl rfl rfl rfl rfl rfl rfl rfl tx38pi (fun w1 hw => bigC_0 w1) ?_
    exact hk7 _ ⟨rfl, (by first | simp only [St.put] | rfl), (by first | simp only [St.put] | rfl), (by first | simp only [St.put] | rfl), ext_cut 4 (by kernel_rfl) (by kernel_rfl)⟩
  refine L_v rfl rfl rfl (V_move rfl rfl) ?_
  apply L_or 3 59 63
  · rfl
  · rfl
  · rfl
  · rfl
  · rfl
  · rfl
  · rfl
  · kernel_rfl
  · intro hb8 _ _ hk8
    refine L_wv rfl rfl rfl rfl rfl rfl (V_fieldAddr rfl rfl Tryd.underlying46 rfl sz40pi rfl) ?_
    refine L_wv rfl rfl rfl rfl rfl rfl (V_loadT 1 (vs := zCL) rfl rfl rfl Tryd.underlying40 rfl sz40pi (by kernel_rfl) (by kernel_rfl)) ?_
    refine L_wcallV rfl rfl rfl rfl rfl rfl rfl rfl rfl tx38pi (fun w1 hw => bigC_0 w1) ?_
    exact hk8 _ ⟨rfl, (by first | simp only [St.put] | rfl), (by first | simp only [St.put] | rfl), (by first | simp only [St.put] | rfl), ext_cut 3 (by kernel_rfl) (by kernel_rfl)⟩
  refine L_v rfl rfl rfl (V_move rfl rfl) ?_
  apply L_or 5 64 70
  · rfl
  · rfl
  · rfl
  · rfl
  · rfl
  · rfl
  · rfl
  · kernel_rfl
  · intro hb9 _ _ hk9
    refine L_wv rfl rfl rfl rfl rfl rfl (V_fieldAddr rfl rfl Tryd.underlying46 rfl sz34pi rfl) ?_
    refine L_wv rfl rfl rfl rfl rfl rfl (V_fieldAddr rfl rfl Tryd.underlying34 rfl sz23pi rfl) ?_
    refine L_wv rfl rfl rfl rfl rfl rfl (V_load1 1 rfl rfl rfl Tryd.underlying23 rfl (by rfl)) ?_
    refine L_wv rfl rfl rfl rfl rfl rfl (V_len rfl rfl Tryd.underlying23 rfl) ?_
    refine L_wv rfl rfl rfl rfl rfl rfl (V_gtr rfl rfl rfl (by first | exact decide_eq_true (by omega) | exact decide_eq_false (by omega) | rfl)) ?_
    exact hk9 _ ⟨rfl, (by first | simp only [St.put] | rfl), (by first | simp only [St.put] | rfl), (by first | simp only [St.put] | rfl), ext_cut 5 (by kernel_rfl) (by kernel_rfl)⟩
  refine L_v rfl rfl rfl (V_move rfl rfl) ?_
  apply L_or 6 71 78
  · rfl
  · rfl
  · rfl
  · rfl
  · rfl
  · rfl
  · rfl
  · kernel_rfl
  · intro hb10 _ _ hk10
    refine L_wv rfl rfl rfl rfl rfl rfl (V_fieldAddr rfl rfl Tryd.underlying46 rfl sz34pi rfl) ?_
    refine L_wv rfl rfl rfl rfl rfl rfl (V_fieldAddr rfl rfl Tryd.underlying34 rfl sz28pi rfl) ?_
    refine L_wv rfl rfl rfl rfl rfl rfl (V_fieldAddr rfl rfl Tryd.underlying28 rfl sz24pi rfl) ?_
    refine L_wv rfl rfl rfl rfl rfl rfl (V_load1 1 rfl rfl rfl Tryd.underlying24 rfl (by rfl)) ?_
    refine L_wv rfl rfl rfl rfl rfl rfl (V_len rfl rfl Tryd.underlying24 rfl) ?_
    refine L_wv rfl rfl rfl rfl rfl rfl (V_gtr rfl rfl rfl (by first | exact decide_eq_true (by omega) | exact decide_eq_false (by omega) | rfl)) ?_
    exact hk10 _ ⟨rfl, (by first | simp only [St.put] | rfl), (by first | simp only [St.put] | rfl), (by first | simp only [St.put] | rfl), ext_cut 6 (by kernel_rfl) (by kernel_rfl)⟩
  refine L_v rfl rfl rfl (V_assign rfl rfl) ?_
  refine L_nil ?_
  change J _ _ _ _
  refine J_ret ?_
  change Kret _ _ _ Exit.ret _
  refine ret1 rfl rfl (RV_t rfl) ?_
  exact fun w' h => ⟨congrArg (fun b => Ending.returned (Value.bool b)) (by rw [Bool.eq_iff_iff]; simp only [decide_eq_true_eq, Bool.and_eq_true, Bool.or_eq_true, Bool.not_eq_true', decide_eq_false_iff_not]; show _ ↔ 1000 < x.vers.length ∨ 1000 < x.pf.sib.length; simp; omega), h.fr⟩

theorem large_eq (x : Rp) (a b : ByteArray) : (((((((decide (bigRp rp0) || decide (bigRp x)) || decide ((100000 : Int) < (a.size : Int))) || decide ((100000 : Int) < (b.size : Int))) || false) || false) || false) || false) = decide (bigRp x ∨ 100000 < a.size ∨ 100000 < b.size) := by
  have h0 : ¬ bigRp rp0 := by unfold bigRp rp0; simp [pf0]
  rw [Bool.eq_iff_iff]
  simp only [Bool.or_eq_true, decide_eq_true_eq, Bool.false_eq_true, or_false]
  omega
set_option maxHeartbeats 1000000 in
theorem large_r (x : Rp) (v s : Sl) (a b : ByteArray) (w : World) :
    Calls Tryd.prog 5 #[.agg (ctM ct0 m50).toArray, .agg (msM (rMs x) (rM5 v s)).toArray, .string a, .string b] w fun e w' => e = .returned (.bool (decide (bigRp x ∨ 100000 < a.size ∨ 100000 < b.size))) ∧ Fr [] w w' := by
  refine calls_of (args := [.agg (ctM ct0 m50).toArray, .agg (msM (rMs x) (rM5 v s)).toArray, .string a, .string b]) ([]) ([]) ([]) Tryd.func5 rfl rfl (okW0 _ _ _ _) ?_
  refine J_seq ?_
  refine J_region ?_
  refine L_box rfl rfl rfl rfl rfl (fun b0 => ?_)
  refine L_box rfl rfl rfl rfl rfl (fun b1 => ?_)
  refine L_v rfl rfl rfl (V_assign rfl rfl) ?_
  refine L_nil ?_
  change J _ _ _ _
  refine J_seq ?_
  refine J_region ?_
  refine L_v rfl rfl rfl (V_buildE (v := .agg (zST).toArray) rfl rfl (fun w => by kernel_rfl)) ?_
  refine L_v rfl rfl rfl (V_fieldAddr rfl rfl Tryd.underlying48 rfl sz46pi rfl) ?_
  refine L_v rfl rfl rfl (V_loadT 0 (vs := msM ct0.msg m50) rfl rfl rfl Tryd.underlying46 rfl sz46pi (by kernel_rfl) (by kernel_rfl)) ?_
  refine L_callV rfl rfl rfl rfl rfl rfl tx14pi (fun w1 hw => big17_r rp0 slN slN w1) ?_
  refine L_v rfl rfl rfl (V_move rfl rfl) ?_
  apply L_or 3 13 17
  · rfl
  · rfl
  · rfl
  · rfl
  · rfl
  · rfl
  · rfl
  · kernel_rfl
  · intro hb1 _ _ hk1
    refine L_wv rfl rfl rfl rfl rfl rfl (V_buildE (v := .agg (zST).toArray) rfl rfl (fun w => by kernel_rfl)) ?_
    refine L_wv rfl rfl rfl rfl rfl rfl (V_loadT 1 (vs := msM (rMs x) (rM5 v s)) rfl rfl rfl Tryd.underlying46 rfl sz46pi (by kernel_rfl) (by kernel_rfl)) ?_
    refine L_wcallV rfl rfl rfl rfl rfl rfl rfl rfl rfl tx14pi (fun w1 hw => big17_r x v s w1) ?_
    exact hk1 _ ⟨rfl, (by first | simp only [St.put] | rfl), (by first | simp only [St.put] | rfl), (by first | simp only [St.put] | rfl), ext_cut 3 (by kernel_rfl) (by kernel_rfl)⟩
  refine L_v rfl rfl rfl (V_move rfl rfl) ?_
  apply L_or 3 18 22
  · rfl
  · rfl
  · rfl
  · rfl
  · rfl
  · rfl
  · rfl
  · kernel_rfl
  · intro hb2 _ _ hk2
    refine L_wv rfl rfl rfl rfl rfl rfl (V_move rfl rfl) ?_
    refine L_wv rfl rfl rfl rfl rfl rfl (V_lenS rfl rfl Tryd.underlying9 rfl) ?_
    refine L_wv rfl rfl rfl rfl rfl rfl (V_gtr rfl rfl rfl (by first | exact decide_eq_true (by omega) | exact decide_eq_false (by omega) | rfl)) ?_
    exact hk2 _ ⟨rfl, (by first | simp only [St.put] | rfl), (by first | simp only [St.put] | rfl), (by first | simp only [St.put] | rfl), ext_cut 3 (by kernel_rfl) (by kernel_rfl)⟩
  refine L_v rfl rfl rfl (V_move rfl rfl) ?_
  apply L_or 3 23 27
  · rfl
  · rfl
  · rfl
  · rfl
  · rfl
  · rfl
  · rfl
  · kernel_rfl
  · intro hb3 _ _ hk3
    refine L_wv rfl rfl rfl rfl rfl rfl (V_move rfl rfl) ?_
    refine L_wv rfl rfl rfl rfl rfl rfl (V_lenS rfl rfl Tryd.underlying9 rfl) ?_
    refine L_wv rfl rfl rfl rfl rfl rfl (V_gtr rfl rfl rfl (by first | exact decide_eq_true (by omega) | exact decide_eq_false (by omega) | rfl)) ?_
    exact hk3 _ ⟨rfl, (by first | simp only [St.put] | rfl), (by first | simp only [St.put] | rfl), (by first | simp only [St.put] | rfl), ext_cut 3 (by kernel_rfl) (by kernel_rfl)⟩
  refine L_v rfl rfl rfl (V_move rfl rfl) ?_
  apply L_or 5 28 34
  · rfl
  · rfl
  · rfl
  · rfl
  · rfl
  · rfl
  · rfl
  · kernel_rfl
  · intro hb4 _ _ hk4
    refine L_wv rfl rfl rfl rfl rfl rfl (V_fieldAddr rfl rfl Tryd.underlying48 rfl sz46pi rfl) ?_
    refine L_wv rfl rfl rfl rfl rfl rfl (V_fieldAddr rfl rfl Tryd.underlying46 rfl sz9pi rfl) ?_
    refine L_wv rfl rfl rfl rfl rfl rfl (V_load1 0 rfl rfl rfl Tryd.underlying9 rfl (by rfl)) ?_
    refine L_wv rfl rfl rfl rfl rfl rfl (V_lenS rfl rfl Tryd.underlying9 rfl) ?_
    refine L_wv rfl rfl rfl rfl rfl rfl (V_gtr rfl rfl rfl (by first | exact decide_eq_true (by omega) | exact decide_eq_false (by omega) | rfl)) ?_
    exact hk4 _ ⟨rfl, (by first | simp only [St.put] | rfl), (by first | simp only [St.put] | rfl), (by first | simp only [St.put] | rfl), ext_cut 5 (by kernel_rfl) (by kernel_rfl)⟩
  refine L_v rfl rfl rfl (V_move rfl rfl) ?_
  apply L_or 6 35 42
  · rfl
  · rfl
  · rfl
  · rfl
  · rfl
  · rfl
  · rfl
  · kernel_rfl
  · intro hb5 _ _ hk5
    refine L_wv rfl rfl rfl rfl rfl rfl (V_fieldAddr rfl rfl Tryd.underlying48 rfl sz46pi rfl) ?_
    refine L_wv rfl rfl rfl rfl rfl rfl (V_fieldAddr rfl rfl Tryd.underlying46 rfl sz43pi rfl) ?_
    refine L_wv rfl rfl rfl rfl rfl rfl (V_fieldAddr rfl rfl Tryd.underlying43 rfl sz9pi rfl) ?_
    refine L_wv rfl rfl rfl rfl rfl rfl (V_load1 0 rfl rfl rfl Tryd.underlying9 rfl (by rfl)) ?_
    refine L_wv rfl rfl rfl rfl rfl rfl (V_lenS rfl rfl Tryd.underlying9 rfl) ?_
    refine L_wv rfl rfl rfl rfl rfl rfl (V_gtr rfl rfl rfl (by first | exact decide_eq_true (by omega) | exact decide_eq_false (by omega) | rfl)) ?_
    exact hk5 _ ⟨rfl, (by first | simp only [St.put] | rfl), (by first | simp only [St.put] | rfl), (by first | simp only [St.put] | rfl), ext_cut 6 (by kernel_rfl) (by kernel_rfl)⟩
  refine L_v rfl rfl rfl (V_move rfl rfl) ?_
  apply L_or 6 43 50
  · rfl
  · rfl
  · rfl
  · rfl
  · rfl
  · rfl
  · rfl
  · kernel_rfl
  · intro hb6 _ _ hk6
    refine L_wv rfl rfl rfl rfl rfl rfl (V_fieldAddr rfl rfl Tryd.underlying48 rfl sz46pi rfl) ?_
    refine L_wv rfl rfl rfl rfl rfl rfl (V_fieldAddr rfl rfl Tryd.underlying46 rfl sz43pi rfl) ?_
    refine L_wv rfl rfl rfl rfl rfl rfl (V_fieldAddr rfl rfl Tryd.underlying43 rfl sz9pi rfl) ?_
    refine L_wv rfl rfl rfl rfl rfl rfl (V_load1 0 rfl rfl rfl Tryd.underlying9 rfl (by rfl)) ?_
    refine L_wv rfl rfl rfl rfl rfl rfl (V_lenS rfl rfl Tryd.underlying9 rfl) ?_
    refine L_wv rfl rfl rfl rfl rfl rfl (V_gtr rfl rfl rfl (by first | exact decide_eq_true (by omega) | exact decide_eq_false (by omega) | rfl)) ?_
    exact hk6 _ ⟨rfl, (by first | simp only [St.put] | rfl), (by first | simp only [St.put] | rfl), (by first | simp only [St.put] | rfl), ext_cut 6 (by kernel_rfl) (by kernel_rfl)⟩
  refine L_v rfl rfl rfl (V_move rfl rfl) ?_
  apply L_or 5 51 57
  · rfl
  · rfl
  · rfl
  · rfl
  · rfl
  · rfl
  · rfl
  · kernel_rfl
  · intro hb7 _ _ hk7
    refine L_wv rfl rfl rfl rfl rfl rfl (V_fieldAddr rfl rfl Tryd.underlying46 rfl sz43pi rfl) ?_
    refine L_wv rfl rfl rfl rfl rfl rfl (V_fieldAddr rfl rfl Tryd.underlying43 rfl sz9pi rfl) ?_
    refine L_wv rfl rfl rfl rfl rfl rfl (V_load1 1 rfl rfl rfl Tryd.underlying9 rfl (by rfl)) ?_
    refine L_wv rfl rfl rfl rfl rfl rfl (V_lenS rfl rfl Tryd.underlying9 rfl) ?_
    refine L_wv rfl rfl rfl rfl rfl rfl (V_gtr rfl rfl rfl (by first | exact decide_eq_true (by omega) | exact decide_eq_false (by omega) | rfl)) ?_
    exact hk7 _ ⟨rfl, (by first | simp only [St.put] | rfl), (by first | simp only [St.put] | rfl), (by first | simp only [St.put] | rfl), ext_cut 5 (by kernel_rfl) (by kernel_rfl)⟩
  refine L_v rfl rfl rfl (V_assign rfl rfl) ?_
  refine L_nil ?_
  change J _ _ _ _
  refine J_ret ?_
  change Kret _ _ _ Exit.ret _
  refine ret1 rfl rfl (RV_t rfl) ?_
  exact fun w' h => ⟨congrArg (fun b => Ending.returned (Value.bool b)) (large_eq x a b), h.fr⟩

end Go.Proofs.YtfdmjjhgdbpfeaaDoor

/- A leaf's digest. -/
set_option linter.unusedVariables false
set_option linter.unusedSimpArgs false
set_option maxRecDepth 100000
namespace Go.Proofs.YtfdmjjhgdbpfeaaDoor
open Go.Sx
theorem ap_own {cx : Cx} {m : Mem} {fs : List Fact} {w : World} {i j b g : Nat} {p q : Obj} {l : List Int} {n c : Nat} (h : OkW cx m fs w) (hi : m[i]? = some (b, p)) (hj : m[j]? = some (g, q)) (hij : i ≠ j) : ∀ k, (factB (.slice (some ⟨g, 0, none⟩) n c) l).fp k → k ≠ b := by
  rintro k ⟨_, off, n', c', e⟩ rfl
  simp only [Value.slice.injEq, Option.some.injEq, Addr.mk.injEq] at e
  obtain ⟨⟨rfl, _⟩, _⟩ := e
  exact hij (key_unique h.dis hi hj)
theorem hsum_d (b : Nat) (ws : R8) (bl m : List Int) (w : World) (hb : w.heap[b]? = some (row 157 (hL ws.l bl (m.length : Int)))) (hs : HS m ws bl) (hK : TabK KT 1 w) (hsz : m.length ≤ 1099511627000) : Calls Tryd.prog 61 #[.pointer (some ⟨b, 0, none⟩)] w fun e w' => e = .returned (.agg (dgM (shD m)).toArray) ∧ Fr [] w w' := by
  rw [show dgM (shD m) = dg (shaP m) from by unfold dgM; rw [l32_shD]]
  exact hsum_w b ws bl m w hb hs hK hsz
theorem l2s_next {l : List Dg} {i : Nat} (m : Int) (h : i < l.length) : m :: l2s (l.take (i + 1)) = (m :: l2s (l.take i)) ++ l32 (l.getD i dz) := by rw [l2s_take h]; rfl
theorem sz5pj : (Tryd.prog.info? 5).map (·.size) = some 1 := by kernel_rfl
theorem sz26pj : (Tryd.prog.info? 26).map (·.size) = some 32 := by kernel_rfl
theorem tx36pj : Txt Tryd.prog 36 := txt_of Tryd.func36 rfl (by kernel_rfl)
theorem tx39pj : Txt Tryd.prog 39 := txt_of Tryd.func39 rfl (by kernel_rfl)
theorem tx59pj : Txt Tryd.prog 59 := txt_of Tryd.func59 rfl (by kernel_rfl)
theorem tx60pj : Txt Tryd.prog 60 := txt_of Tryd.func60 rfl (by kernel_rfl)
theorem tx61pj : Txt Tryd.prog 61 := txt_of Tryd.func61 rfl (by kernel_rfl)
theorem z26pj : (Tryd.prog.info? 26).bind (·.zero) = some (.agg (dgM dz).toArray) := by kernel_rfl

set_option maxHeartbeats 1000000 in
theorem summed5_w (m : Int) (l : List Dg) (s : Sl) (w : World) (f1 : FA w (sbF l s)) (hB : l.length ≤ 1000) (hbm : Byt [m]) (hbl : ∀ f ∈ l, DB f) (hK : TabK KT 1 w) :
    Calls Tryd.prog 39 #[.int .i64 32, .int .u8 m, .slice s.1 l.length s.2] w fun e w' => e = .returned (.agg (dgM (shD (m :: l2s l))).toArray) ∧ Fr [] w w' := by
  refine calls_of (args := [.int .i64 32, .int .u8 m, .slice s.1 l.length s.2]) ([]) ([]) ([sbF l s]) Tryd.func39 rfl rfl (okFW (.cons f1 .nil)) ?_
  refine J_seq ?_
  refine J_region ?_
  refine L_alloc rfl rfl rfl rfl z26pj (fun b0 => ?_)
  refine L_nil ?_
  change J _ _ _ _
  refine J_seq ?_
  refine J_region ?_
  refine L_call rfl rfl rfl rfl tx59pj (fun w1 hw => (hnew_w w1).mono ?_)
  rintro e w' ⟨b1, rfl, hfr1, hsz1, hb1⟩
  refine ⟨_, _, _, rfl, hw.add hfr1 hb1 hsz1, rfl, ?_⟩
  refine L_v rfl rfl rfl (V_assign rfl rfl) ?_
  refine L_nil ?_
  change J _ _ _ _
  refine J_seq ?_
  refine J_region ?_
  refine L_v rfl rfl rfl (V_move rfl rfl) ?_
  refine L_v rfl rfl rfl (V_move rfl rfl) ?_
  refine L_buildSlice (vs := [(0, .int .u8 m)]) (l := dg [m]) rfl rfl rfl rfl rfl (bs1b m) (fun b2 => ?_)
  refine L_call rfl rfl rfl rfl tx60pj (fun w1 hw => (write_w b1 R0 (List.replicate 64 0) [] [m] (some ⟨b2, 0, none⟩) 1 1 w1 (hw.at (i := 1) rfl) hs0 (SlB.of_mem' hw (i := 2) rfl rfl 1) (ap_own hw (i := 1) (j := 2) rfl rfl (by decide)) hbm (Nat.le_refl _) (TabK.later hw (by simp) hK) (fun e => by have h1 : w.heap.size ≤ b1 := hw.ge rfl (i := 1) rfl; have h2 := hK.lt; omega) (by simp)).mono ?_)
  rintro e w' ⟨ws2, bl2, rfl, hfr2, hb2, hs2⟩
  refine ⟨_, _, _, rfl, hw.set (i := 1) rfl hfr2 hb2, rfl, ?_⟩
  refine L_nil ?_
  change J _ _ _ _
  refine J_seq ?_
  refine J_seq ?_
  refine J_region ?_
  refine L_v rfl rfl rfl (V_move rfl rfl) ?_
  refine L_v rfl rfl rfl (V_len rfl rfl Tryd.underlying24 rfl) ?_
  refine L_v rfl rfl rfl (V_move rfl rfl) ?_
  refine L_nil ?_
  change J _ _ _ _
  refine J_block ?_
  refine J_loop (X := Nat × R8 × List Int) (fun y => { env := [(0, .int .i64 32), (6, .pointer (some ⟨b0, 0, none⟩)), (7, .pointer (some ⟨b1, 0, none⟩)), (15, .slice s.1 l.length s.2), (16, .int .i64 (l.length : Int)), (17, .int .i64 (y.1 : Int))], mem := [(b0, row 26 (dgM dz)), (b1, row 157 (hL y.2.1.l y.2.2 ((m :: l2s (l.take y.1)).length : Int)))], facts := [sbF l s] }) (fun y => y.1 ≤ l.length ∧ HS (m :: l2s (l.take y.1)) y.2.1 y.2.2) (fun y => l.length - y.1) (0, ws2, bl2) ⟨Nat.zero_le _, hs2⟩ ⟨⟨rfl, rfl, rfl, rfl, rfl, rfl, trivial⟩, List.Sublist.cons_cons _ (List.Sublist.cons_cons _ (List.nil_sublist _)), fun f hf => hf, rfl⟩ ?_
  rintro ⟨i, ws, bl⟩ ⟨hi, hs⟩
  simp only at hi hs ⊢
  refine J_seq ?_
  refine J_region ?_
  refine L_v rfl rfl rfl (V_lss rfl rfl rfl (by first | exact decide_eq_true (by omega) | exact decide_eq_false (by omega) | rfl)) ?_
  refine L_nil ?_
  change J _ _ _ _
  refine J_seq ?_
  refine J_cond rfl (fun h1 => ?_) (fun h1 => ?_)
  ·
    first | (have h1 := of_decide_eq_true h1) | (have h1 := of_decide_eq_false h1) | skip
    refine J_skip ?_
    change J _ _ _ _
    refine J_seq ?_
    refine J_block ?_
    refine J_seq ?_
    refine J_region ?_
    refine L_v rfl rfl rfl (V_indexC rfl rfl rfl Tryd.underlying24 sz26pj (fun w hw => (hw.fa 0 rfl).1) (by omega) (by omega)) ?_
    refine L_v rfl rfl rfl (V_loadCN (vs := dgM (l.getD i dz)) rfl rfl Tryd.underlying26 rfl (szd sz26pj (by kernel_rfl)) (fun w hw => (hw.fa 0 rfl).1) (by exact Nat.zero_lt_succ _) (rows_v (f := dgM) dz (sz := 31) (fun _ => rfl) (by omega))) ?_
    refine L_alloc rfl rfl rfl rfl z26pj (fun b2 => ?_)
    refine L_storeW 2 rfl rfl rfl rfl rfl rfl (szd sz26pj (by kernel_rfl)) (all_one (by kernel_rfl)) (by kernel_rfl) ?_
    refine L_nil ?_
    change J _ _ _ _
    refine J_region ?_
    refine L_v rfl rfl rfl (V_move rfl rfl) ?_
    refine L_v rfl rfl rfl (V_sliceArr rfl rfl Tryd.underlying26 sz5pj) ?_
    refine L_call rfl rfl rfl rfl tx60pj (fun w1 hw => (write_w b1 ws bl (m :: l2s (l.take i)) (l32 (l.getD i dz)) (some ⟨b2, 0, none⟩) 32 32 w1 (hw.at (i := 1) rfl) hs (SlB.of_mem' hw (i := 2) rfl rfl 32) (ap_own hw (i := 1) (j := 2) rfl rfl (by decide)) (getD_db hbl i) (Nat.le_refl _) (TabK.later hw (by simp) hK) (fun e => by have h1 : w.heap.size ≤ b1 := hw.ge rfl (i := 1) rfl; have h2 := hK.lt; omega) (by rw [List.length_cons, l2s_len, List.length_take, l32_len]; omega)).mono ?_)
    rintro e w' ⟨ws3, bl3, rfl, hfr3, hb3, hs3⟩
    refine ⟨_, _, _, rfl, hw.set (i := 1) rfl hfr3 hb3, rfl, ?_⟩
    refine L_nil ?_
    change J _ _ _ _
    refine J_region ?_
    refine L_v rfl rfl rfl (V_add rfl rfl rfl (by first | exact Go.IntWalk.i64_in _ (by omega) | rfl)) ?_
    refine L_v rfl rfl rfl (V_move rfl rfl) ?_
    refine L_nil ?_
    have e9 := l2s_next (l := l) (i := i) m (by omega)
    exact ⟨(i + 1, ws3, bl3), ⟨by show i + 1 ≤ l.length; omega, by show HS (m :: l2s (l.take (i + 1))) _ _; rw [e9]; exact hs3⟩, by show l.length - (i + 1) < l.length - i; omega, ⟨rfl, rfl, rfl, rfl, rfl, rfl, trivial⟩, (by show List.Sublist [_, (b1, row 157 (hL ws3.l bl3 ((m :: l2s (l.take (i + 1))).length : Int)))] _; rw [e9, List.length_append]; exact List.Sublist.cons_cons _ (List.Sublist.cons_cons _ (List.nil_sublist _))), fun f hf => hf, rfl⟩
  ·
    first | (have h1 := of_decide_eq_true h1) | (have h1 := of_decide_eq_false h1) | skip
    obtain rfl : i = l.length := by omega
    rw [List.take_length] at hs ⊢
    refine J_exit ?_
    change J _ _ _ _
    refine J_seq ?_
    refine J_region ?_
    refine L_v rfl rfl rfl (V_move rfl rfl) ?_
    refine L_v rfl rfl rfl (V_move rfl rfl) ?_
    refine L_callV rfl rfl rfl rfl rfl rfl tx61pj (fun w1 hw => hsum_d b1 ws bl (m :: l2s l) w1 (hw.at (i := 1) rfl) hs (TabK.later hw (by simp) hK) (by rw [List.length_cons, l2s_len]; omega)) ?_
    refine L_callV rfl rfl rfl rfl rfl rfl tx36pj (fun w1 hw => short_w (shD (m :: l2s l)) w1) ?_
    refine L_storeW 0 rfl rfl rfl rfl rfl rfl (szd sz26pj (by kernel_rfl)) (all_one (by kernel_rfl)) (by kernel_rfl) ?_
    refine L_nil ?_
    change J _ _ _ _
    refine J_ret ?_
    change Kret _ _ _ Exit.ret _
    refine ret1 rfl rfl (RV_c 0 rfl rfl Tryd.underlying26 rfl (szd sz26pj (by kernel_rfl))) ?_
    exact fun w' h => ⟨rfl, h.fr⟩

theorem summed5_b {m : Int} {l : List Dg} {d : Dg} (hd : shD (m :: l2s l) = d) (s : Sl) (w : World) (f1 : FA w (sbF l s)) (hB : l.length ≤ 1000) (hbm : Byt [m]) (hbl : ∀ f ∈ l, DB f) (hK : TabK KT 1 w) : Calls Tryd.prog 39 #[.int .i64 32, .int .u8 m, .slice s.1 l.length s.2] w fun e w' => e = .returned (.agg (dgM d).toArray) ∧ Fr [] w w' := by
  subst hd
  exact summed5_w m l s w f1 hB hbm hbl hK
theorem leaf5_w (p v d : Dg) (hd : shD (0 :: l2s [p, v]) = d) (w : World) (hp : DB p) (hv : DB v) (hK : TabK KT 1 w) :
    Calls Tryd.prog 15 #[.int .i64 32, .agg (lfM p v).toArray] w fun e w' => e = .returned (.agg (dgM d).toArray) ∧ Fr [] w w' := by
  have hbz : Byt [0] := by intro x hx; simp at hx; omega
  refine calls_of (args := [.int .i64 32, .agg (lfM p v).toArray]) ([]) ([]) ([]) Tryd.func15 rfl rfl (okW0 _ _ _ _) ?_
  refine J_seq ?_
  refine J_region ?_
  refine L_box rfl rfl rfl rfl rfl (fun b0 => ?_)
  refine L_alloc rfl rfl rfl rfl z26pj (fun b1 => ?_)
  refine L_nil ?_
  change J _ _ _ _
  refine J_seq ?_
  refine J_region ?_
  refine L_v rfl rfl rfl (V_move rfl rfl) ?_
  refine L_v rfl rfl rfl (V_fieldAddr rfl rfl Tryd.underlying82 rfl sz26pj rfl) ?_
  refine L_v rfl rfl rfl (V_loadT 0 (vs := dgM p) rfl rfl rfl Tryd.underlying26 rfl sz26pj (by kernel_rfl) (by kernel_rfl)) ?_
  refine L_v rfl rfl rfl (V_fieldAddr rfl rfl Tryd.underlying82 rfl sz26pj rfl) ?_
  refine L_v rfl rfl rfl (V_loadT 0 (vs := dgM v) rfl rfl rfl Tryd.underlying26 rfl sz26pj (by kernel_rfl) (by kernel_rfl)) ?_
  refine L_buildSlice (vs := [(0, .agg (dgM p).toArray), (1, .agg (dgM v).toArray)]) (l := ([p, v].map dgM).flatten) rfl rfl rfl rfl rfl (bs2d p v) (fun b2 => ?_)
  refine L_callV rfl rfl rfl rfl rfl rfl tx39pj (fun w1 hw => summed5_b hd (some ⟨b2, 0, none⟩, 2) w1 (fa_two hw (i := 2) rfl) (by simp) hbz (by intro f hf; rcases List.mem_cons.1 hf with rfl | hf; exact hp; obtain rfl := List.mem_singleton.1 hf; exact hv) (TabK.later hw (by simp) hK)) ?_
  refine L_storeW 1 rfl rfl rfl rfl rfl rfl (szd sz26pj (by kernel_rfl)) (all_one (by kernel_rfl)) (by kernel_rfl) ?_
  refine L_nil ?_
  change J _ _ _ _
  refine J_ret ?_
  change Kret _ _ _ Exit.ret _
  refine ret1 rfl rfl (RV_c 1 rfl rfl Tryd.underlying26 rfl (szd sz26pj (by kernel_rfl))) ?_
  exact fun w' h => ⟨rfl, h.fr⟩

end Go.Proofs.YtfdmjjhgdbpfeaaDoor

/- What the laws of layer 21 try first. -/
set_option linter.unusedVariables false
set_option linter.unusedSimpArgs false
set_option maxRecDepth 100000
namespace Go.Proofs.YtfdmjjhgdbpfeaaDoor
open Go.Sx
def uPL : List Int := [11, 254, 147, 94, 112, 195, 33, 199, 202, 58, 252, 117, 206, 13, 12, 162, 249, 139, 84, 34, 224, 8, 187, 49, 192, 12, 109, 127, 31, 28, 10, 214]
def uKL : List Int := [66, 174, 47, 122, 248, 101, 98, 175, 54, 153, 181, 7, 44, 25, 241, 251, 169, 102, 25, 56, 179, 60, 244, 26, 215, 63, 144, 187, 96, 38, 79, 189]
def uXL : List Int := [100, 126, 88, 10, 123, 218, 153, 247, 99, 198, 107, 113, 136, 251, 207, 187, 211, 26, 26, 163, 220, 115, 214, 229, 40, 87, 232, 161, 174, 183, 226, 224]
def uRL : List Int := [26, 246, 224, 24, 206, 8, 19, 157, 222, 30, 16, 242, 85, 242, 176, 76, 61, 4, 32, 208, 174, 48, 54, 75, 226, 19, 184, 16, 114, 242, 202, 30]
def uQL : List Int := [60, 125, 203, 223, 233, 157, 23, 74, 86, 194, 27, 0, 4, 18, 188, 232, 24, 49, 104, 52, 5, 236, 124, 63, 154, 229, 57, 33, 154, 117, 16, 21]
def uEL : List Int := [219, 193, 180, 201, 0, 255, 228, 141, 87, 91, 93, 165, 198, 56, 4, 1, 37, 246, 93, 176, 254, 62, 36, 73, 75, 118, 234, 152, 100, 87, 217, 134]
def uSL : List Int := [11, 219, 148, 86, 208, 113, 152, 26, 9, 155, 190, 97, 207, 251, 0, 153, 225, 116, 48, 114, 30, 243, 36, 92, 32, 155, 119, 128, 182, 254, 151, 205]
def uTL : List Int := [251, 60, 170, 10, 107, 4, 161, 121, 183, 139, 61, 174, 98, 207, 4, 170, 226, 9, 158, 205, 37, 51, 11, 81, 44, 36, 128, 85, 23, 140, 216, 237]
def kU : ByteArray := ⟨#[117]⟩
def kS : ByteArray := ⟨#[115]⟩
def kT : ByteArray := ⟨#[116]⟩
def vk : Vr := (1, 1, ⟨#[107]⟩)
def vx : Vr := (1, 1, ⟨#[120]⟩)
theorem q_p : shaP (bs kU) = uPL := by decide +kernel
theorem q_k : shaP (putB [vk]) = uKL := by decide +kernel
theorem q_x : shaP (putB [vx]) = uXL := by decide +kernel
theorem q_r : shaP (0 :: (uPL ++ uKL)) = uRL := by decide +kernel
theorem q_q : shaP (0 :: (uPL ++ uXL)) = uQL := by decide +kernel
theorem q_e : shaP [2] = uEL := by decide +kernel
theorem q_s : sgn kS 1 uRL zd = uSL := by decide +kernel
theorem q_t : sgn kT 1 uRL zd = uTL := by decide +kernel
theorem n_qr : uQL ≠ uRL := by decide +kernel
theorem n_er : uEL ≠ uRL := by decide +kernel
theorem n_ts : uTL ≠ uSL := by decide +kernel
abbrev rpV (l : List Vr) (g : Sg) : Rp := { rp0 with vers := l, head := g }
def rtD : Dg := shD (0 :: l2s [pathD kU, verD [vk]])
def snD : Dg := ofL (sgn kS 1 (l32 rtD) (l32 dz))
def sgA : Sg := ((1, rtD, dz), snD)
theorem l_p : l32 (pathD kU) = uPL := by unfold pathD; rw [l32_shD, q_p]
theorem l_k : l32 (verD [vk]) = uKL := by unfold verD; rw [l32_shD, q_k]
theorem l_x : l32 (verD [vx]) = uXL := by unfold verD; rw [l32_shD, q_x]
theorem l_r : l32 rtD = uRL := by
  unfold rtD
  rw [l32_shD, l2_two, l_p, l_k, q_r]
theorem l_s : l32 snD = uSL := by
  unfold snD
  rw [l32_ofL (sgn_len _ _ _ _), l_r, l32_dz, q_s]
theorem c_s : chkS kS sgA = 0 := by
  show chk kS 1 (l32 rtD) (l32 dz) (l32 snD) = 0
  unfold chk
  rw [if_pos ⟨by decide, by decide⟩, if_pos (by rw [l_r, l32_dz, l_s, q_s])]
theorem c_t : chkS kT sgA = 81 := by
  show chk kT 1 (l32 rtD) (l32 dz) (l32 snD) = 81
  unfold chk
  rw [if_pos ⟨by decide, by decide⟩, if_neg (by rw [l_r, l32_dz, l_s, q_t]; exact n_ts)]
theorem may_n {c : Cm} (h : c.1 = true ∨ c.2 = dz) : mayPf (pathD kU) c pf0 := ⟨⟨Nat.zero_le _, h⟩, rfl, rfl⟩
theorem pc_yes : pchk rtD (pathD kU) (clm [vk]) pf0 = 0 := by
  unfold pchk
  rw [if_pos (may_n (.inl rfl)), if_pos]
  show shD (startP (pathD kU) (true, verD [vk]) pf0) = rtD
  rw [st_1 rfl]
  rfl
theorem pc_no {c : Cm} (h : c.1 = true ∨ c.2 = dz) (hn : shaP (startP (pathD kU) c pf0) ≠ uRL) : pchk rtD (pathD kU) c pf0 = 41 := by
  unfold pchk
  rw [if_pos (may_n h), if_neg]
  intro h2
  have h3 : l32 (shD (startP (pathD kU) c pf0)) = l32 rtD := congrArg l32 h2
  rw [l32_shD, l_r] at h3
  exact hn h3
theorem e_1 : verE kS kU (rpV [vk] sgA) = 0 := by
  unfold verE
  rw [if_neg (fun h => h c_s), if_pos ⟨by kernel_rfl, by decide⟩]
  exact pc_yes
theorem e_2 : verE kT kU (rpV [vk] sgA) = 81 := by
  unfold verE
  rw [if_pos (by rw [c_t]; decide)]
  exact c_t
theorem e_3 : verE kS kU (rpV [vx] sgA) = 41 := by
  unfold verE
  rw [if_neg (fun h => h c_s), if_pos ⟨by kernel_rfl, by decide⟩]
  refine pc_no (.inl rfl) ?_
  rw [st_1 rfl, l2_two]
  show shaP (0 :: (l32 (pathD kU) ++ l32 (verD [vx]))) ≠ uRL
  rw [l_p, l_x, q_q]
  exact n_qr
theorem e_4 : verE kS kU (rpV [] sgA) = 41 := by
  unfold verE
  rw [if_neg (fun h => h c_s), if_pos ⟨by kernel_rfl, by decide⟩]
  refine pc_no (.inr rfl) ?_
  show shaP [2] ≠ uRL
  rw [q_e]
  exact n_er
theorem sg_b : SgD sgA := ⟨shD_byt _, zd_byt, by show Byt (l32 snD); unfold snD; rw [l32_ofL (sgn_len _ _ _ _)]; exact sgn_byt _ _ _ _⟩
theorem rpW_of {w : World} {l : List Vr} {g : Sg} {a : Option Addr} {c : Nat} (hl : l.length ≤ 16) (hs : SlC 3 w (.slice a l.length c) l.length (l.map vrM).flatten) (hc : l.length ≤ c) (hg : SgD g) : RpW w (rpV l g) (a, c) slN :=
  ⟨.and (.slc hs) (fa_nil1 rfl rfl), hc, hg, fun f hf => (by cases hf), zd_byt, zd_byt, by show l.length ≤ _; omega, Nat.zero_le _⟩
theorem of_e {s : ByteArray} {p : Dg} (h : pathD s = p) (w : World) (hK : TabK KT 1 w) (hs : s.size ≤ 1000000) : Calls Tryd.prog 12 #[.string s] w fun e w' => e = .returned (.agg (dgM p).toArray) ∧ Fr [] w w' := h ▸ of_d s w hK hs
theorem vdig_e {l : List Vr} {d : Dg} (hd : verD l = d) (s : Sl) (w : World) (hu : SlC 3 w (.slice s.1 l.length s.2) l.length (l.map vrM).flatten) (hc : l.length ≤ s.2) (h : isH l = true) (hK : TabK KT 1 w) : Calls Tryd.prog 10 #[.slice s.1 l.length s.2] w fun e w' => e = .returned (.tuple #[.agg (dgM d).toArray, .int .i64 0]) ∧ Fr [] w w' := hd ▸ vdig_d l s w (vcs_rows l ▸ hu) hc h hK
theorem sign_m {key : ByteArray} {h : Hd} {sn : Dg} (hsn : ofL (sgn key h.1 (l32 h.2.1) (l32 h.2.2)) = sn) (w : World) (h1 : DB h.2.1) (h2 : DB h.2.2) (hk : okK key = true) (he : okE h.1 = true) (hK : TabK KT 1 w) : Calls Tryd.prog 16 #[.string key, .agg (hdM h).toArray] w fun e w' => e = .returned (.tuple #[.agg (sgM (h, sn)).toArray, .int .i64 0]) ∧ Fr [] w w' := by
  subst hsn
  rw [show sgM (h, ofL (sgn key h.1 (l32 h.2.1) (l32 h.2.2))) = sgL h.1 (l32 h.2.1) (l32 h.2.2) (sgn key h.1 (l32 h.2.1) (l32 h.2.2)) from by unfold sgM sgL; rw [l32_ofL (sgn_len _ _ _ _)]; rfl]
  exact sign_ok key h.1 (l32 h.2.1) (l32 h.2.2) w rfl rfl h1 h2 hk he hK
theorem verify_e {key user : ByteArray} {x : Rp} {k : Int} (he : verE key user x = k) (v s : Sl) (w : World) (W : RpW w x v s) (hu : user.size ≤ 1000000) (hK : TabK KT 1 w) : Calls Tryd.prog 7 #[.string key, .string user, .agg (rpM x v s).toArray] w fun e w' => e = .returned (.int .i64 k) ∧ Fr [] w w' := he ▸ verify_w key user x v s w W hu hK
theorem bs1v (u : Vr) (w : World) : (Instr.buildSlice 23 1 [(0, .agg (vrM u).toArray)].toArray).run Tryd.prog w = .ok (.slice (some ⟨w.heap.size, 0, none⟩) 1 1) (w.alloc (row 79 (vrM u))) := by kernel_rfl
theorem sz23pk : (Tryd.prog.info? 23).map (·.size) = some 1 := by kernel_rfl
theorem sz26pk : (Tryd.prog.info? 26).map (·.size) = some 32 := by kernel_rfl
theorem sz32pk : (Tryd.prog.info? 32).map (·.size) = some 97 := by kernel_rfl
theorem sz34pk : (Tryd.prog.info? 34).map (·.size) = some 169 := by kernel_rfl
theorem tx7pk : Txt Tryd.prog 7 := txt_of Tryd.func7 rfl (by kernel_rfl)
theorem tx10pk : Txt Tryd.prog 10 := txt_of Tryd.func10 rfl (by kernel_rfl)
theorem tx12pk : Txt Tryd.prog 12 := txt_of Tryd.func12 rfl (by kernel_rfl)
theorem tx15pk : Txt Tryd.prog 15 := txt_of Tryd.func15 rfl (by kernel_rfl)
theorem tx16pk : Txt Tryd.prog 16 := txt_of Tryd.func16 rfl (by kernel_rfl)
theorem z26pk : (Tryd.prog.info? 26).bind (·.zero) = some (.agg (dgM dz).toArray) := by kernel_rfl
theorem z32pk : (Tryd.prog.info? 32).bind (·.zero) = some (.agg [.int .i64 0, .int .u8 0, .int .u8 0, .int .u8 0, .int .u8 0, .int .u8 0, .int .u8 0, .int .u8 0, .int .u8 0, .int .u8 0, .int .u8 0, .int .u8 0, .int .u8 0, .int .u8 0, .int .u8 0, .int .u8 0, .int .u8 0, .int .u8 0, .int .u8 0, .int .u8 0, .int .u8 0, .int .u8 0, .int .u8 0, .int .u8 0, .int .u8 0, .int .u8 0, .int .u8 0, .int .u8 0, .int .u8 0, .int .u8 0, .int .u8 0, .int .u8 0, .int .u8 0, .int .u8 0, .int .u8 0, .int .u8 0, .int .u8 0, .int .u8 0, .int .u8 0, .int .u8 0, .int .u8 0, .int .u8 0, .int .u8 0, .int .u8 0, .int .u8 0, .int .u8 0, .int .u8 0, .int .u8 0, .int .u8 0, .int .u8 0, .int .u8 0, .int .u8 0, .int .u8 0, .int .u8 0, .int .u8 0, .int .u8 0, .int .u8 0, .int .u8 0, .int .u8 0, .int .u8 0, .int .u8 0, .int .u8 0, .int .u8 0, .int .u8 0, .int .u8 0, .int .u8 0, .int .u8 0, .int .u8 0, .int .u8 0, .int .u8 0, .int .u8 0, .int .u8 0, .int .u8 0, .int .u8 0, .int .u8 0, .int .u8 0, .int .u8 0, .int .u8 0, .int .u8 0, .int .u8 0, .int .u8 0, .int .u8 0, .int .u8 0, .int .u8 0, .int .u8 0, .int .u8 0, .int .u8 0, .int .u8 0, .int .u8 0, .int .u8 0, .int .u8 0, .int .u8 0, .int .u8 0, .int .u8 0, .int .u8 0, .int .u8 0, .int .u8 0].toArray) := by kernel_rfl
theorem z34pk : (Tryd.prog.info? 34).bind (·.zero) = some (.agg [.int .i64 0, .int .i64 0, .int .i64 0, .int .i64 0, .int .i64 0, .slice none 0 0, .slice none 0 0, .bool false, .int .u8 0, .int .u8 0, .int .u8 0, .int .u8 0, .int .u8 0, .int .u8 0, .int .u8 0, .int .u8 0, .int .u8 0, .int .u8 0, .int .u8 0, .int .u8 0, .int .u8 0, .int .u8 0, .int .u8 0, .int .u8 0, .int .u8 0, .int .u8 0, .int .u8 0, .int .u8 0, .int .u8 0, .int .u8 0, .int .u8 0, .int .u8 0, .int .u8 0, .int .u8 0, .int .u8 0, .int .u8 0, .int .u8 0, .int .u8 0, .int .u8 0, .int .u8 0, .int .u8 0, .int .u8 0, .int .u8 0, .int .u8 0, .int .u8 0, .int .u8 0, .int .u8 0, .int .u8 0, .int .u8 0, .int .u8 0, .int .u8 0, .int .u8 0, .int .u8 0, .int .u8 0, .int .u8 0, .int .u8 0, .int .u8 0, .int .u8 0, .int .u8 0, .int .u8 0, .int .u8 0, .int .u8 0, .int .u8 0, .int .u8 0, .int .u8 0, .int .u8 0, .int .u8 0, .int .u8 0, .int .u8 0, .int .u8 0, .int .u8 0, .int .u8 0, .int .i64 0, .int .u8 0, .int .u8 0, .int .u8 0, .int .u8 0, .int .u8 0, .int .u8 0, .int .u8 0, .int .u8 0, .int .u8 0, .int .u8 0, .int .u8 0, .int .u8 0, .int .u8 0, .int .u8 0, .int .u8 0, .int .u8 0, .int .u8 0, .int .u8 0, .int .u8 0, .int .u8 0, .int .u8 0, .int .u8 0, .int .u8 0, .int .u8 0, .int .u8 0, .int .u8 0, .int .u8 0, .int .u8 0, .int .u8 0, .int .u8 0, .int .u8 0, .int .u8 0, .int .u8 0, .int .u8 0, .int .u8 0, .int .u8 0, .int .u8 0, .int .u8 0, .int .u8 0, .int .u8 0, .int .u8 0, .int .u8 0, .int .u8 0, .int .u8 0, .int .u8 0, .int .u8 0, .int .u8 0, .int .u8 0, .int .u8 0, .int .u8 0, .int .u8 0, .int .u8 0, .int .u8 0, .int .u8 0, .int .u8 0, .int .u8 0, .int .u8 0, .int .u8 0, .int .u8 0, .int .u8 0, .int .u8 0, .int .u8 0, .int .u8 0, .int .u8 0, .int .u8 0, .int .u8 0, .int .u8 0, .int .u8 0, .int .u8 0, .int .u8 0, .int .u8 0, .int .u8 0, .int .u8 0, .int .u8 0, .int .u8 0, .int .u8 0, .int .u8 0, .int .u8 0, .int .u8 0, .int .u8 0, .int .u8 0, .int .u8 0, .int .u8 0, .int .u8 0, .int .u8 0, .int .u8 0, .int .u8 0, .int .u8 0, .int .u8 0, .int .u8 0, .int .u8 0, .int .u8 0, .int .u8 0, .int .u8 0, .int .u8 0, .int .u8 0].toArray) := by kernel_rfl

set_option maxHeartbeats 4000000 in
theorem verifies_v (p dk rt sn : Dg) (hp : pathD kU = p) (hdk : verD [vk] = dk) (hrt : shD (0 :: l2s [p, dk]) = rt) (hsn : ofL (sgn kS 1 (l32 rt) (l32 dz)) = sn) (hpb : DB p) (hkb : DB dk) (hsg : SgD ((1, rt, dz), sn)) (E1 : verE kS kU (rpV [vk] ((1, rt, dz), sn)) = 0) (E2 : verE kT kU (rpV [vk] ((1, rt, dz), sn)) = 81) (E3 : verE kS kU (rpV [vx] ((1, rt, dz), sn)) = 41) (E4 : verE kS kU (rpV [] ((1, rt, dz), sn)) = 41) (w : World) (hK : TabK KT 1 w) :
    Calls Tryd.prog 6 #[] w fun e w' => e = .returned (.bool true) ∧ Fr [] w w' := by
  refine calls_of (args := []) ([]) ([]) ([]) Tryd.func6 rfl rfl (okW0 _ _ _ _) ?_
  refine J_seq ?_
  refine J_region ?_
  refine L_v rfl rfl rfl (V_assign rfl rfl) ?_
  refine L_nil ?_
  change J _ _ _ _
  refine J_seq ?_
  refine J_region ?_
  refine L_v rfl rfl rfl (V_buildE (v := .agg (vrM vk).toArray) rfl rfl (fun w => by kernel_rfl)) ?_
  refine L_buildSlice (vs := [(0, .agg (vrM vk).toArray)]) (l := vrM vk) rfl rfl rfl rfl rfl (bs1v vk) (fun b0 => ?_)
  refine L_v rfl rfl rfl (V_assign rfl rfl) ?_
  refine L_nil ?_
  change J _ _ _ _
  refine J_seq ?_
  refine J_region ?_
  refine L_v rfl rfl rfl (V_move rfl rfl) ?_
  refine L_callV rfl rfl rfl rfl rfl rfl tx10pk (fun w1 hw => vdig_e hdk (some ⟨b0, 0, none⟩, 1) w1 (slc_row hw (i := 0) (ks := vrM vk) rfl rfl 1) (Nat.le_refl 1) (by kernel_rfl) (TabK.later hw (by simp) hK)) ?_
  refine L_v rfl rfl rfl (V_move rfl rfl) ?_
  refine L_v rfl rfl rfl (V_extract rfl rfl rfl) ?_
  refine L_v rfl rfl rfl (V_extract rfl rfl rfl) ?_
  refine L_alloc rfl rfl rfl rfl z26pk (fun b1 => ?_)
  refine L_storeW 1 rfl rfl rfl rfl rfl rfl (szd sz26pk (by kernel_rfl)) (all_one (by kernel_rfl)) (by kernel_rfl) ?_
  refine L_v rfl rfl rfl (V_assign rfl rfl) ?_
  refine L_nil ?_
  change J _ _ _ _
  refine J_seq ?_
  refine J_regionO (.pure 1 (.two 0 (.pure 2 (.two 3 (.one 4 (.one 5 (.nil))) 4 (.one 3 (.one 5 (.nil))))) 4 (.one 0 (.pure 2 (.one 3 (.one 5 (.nil))))))) ([(b0, row 79 (vrM vk)), (b1, row 26 (dgM dk))]) _ (Pk.of_sub (List.Sublist.cons_cons _ (List.Sublist.cons_cons _ (List.nil_sublist _)))) (fun f hf => hf) rfl rfl (by kernel_rfl) ?_
  refine LO_v rfl rfl rfl rfl (V_loadT 1 (vs := dgM dk) rfl rfl rfl Tryd.underlying26 rfl sz26pk (by kernel_rfl) (by kernel_rfl)) ?_
  refine LO_both ?_ ?_
  ·
    refine LO_callV rfl rfl rfl rfl rfl rfl rfl rfl tx12pk (fun w1 hw => of_e hp w1 (TabK.later hw (by simp) hK) (by decide)) (Pk.of_sub (List.Sublist.cons_cons _ (List.Sublist.cons_cons _ (List.nil_sublist _)))) (fun f hf => hf) ?_
    refine LO_v rfl rfl rfl rfl (V_buildE (v := .agg (lfM p dk).toArray) rfl rfl (fun w => by kernel_rfl)) ?_
    refine LO_both ?_ ?_
    ·
      refine LO_callV rfl rfl rfl rfl rfl rfl rfl rfl tx15pk (fun w1 hw => leaf5_w p dk rt hrt w1 hpb hkb (TabK.later hw (by simp) hK)) (Pk.of_sub (List.Sublist.cons_cons _ (List.Sublist.cons_cons _ (List.nil_sublist _)))) (fun f hf => hf) ?_
      refine LO_s rfl rfl rfl (S_alloc rfl rfl rfl z26pk (fun b2 => ⟨(Pk.of_sub (List.Sublist.cons_cons _ (List.Sublist.cons_cons _ (List.nil_sublist _)))), (fun f hf => hf), ?_⟩))
      refine LO_s rfl rfl rfl (S_storeW 2 rfl rfl rfl rfl rfl (szd sz26pk (by kernel_rfl)) (all_one (by kernel_rfl)) (by kernel_rfl) ⟨(Pk.of_sub (List.Sublist.cons_cons _ (List.Sublist.cons_cons _ (List.nil_sublist _)))), (fun f hf => hf), ?_⟩)
      refine LO_nil ?_
      change J _ _ _ _
      refine J_seq ?_
      refine J_region ?_
      refine L_v rfl rfl rfl (V_loadT 2 (vs := dgM rt) rfl rfl rfl Tryd.underlying26 rfl sz26pk (by kernel_rfl) (by kernel_rfl)) ?_
      refine L_v rfl rfl rfl (V_buildE (v := .agg (hdM (1, rt, dz)).toArray) rfl rfl (fun w => by kernel_rfl)) ?_
      refine L_callV rfl rfl rfl rfl rfl rfl tx16pk (fun w1 hw => sign_m (h := (1, rt, dz)) hsn w1 hsg.1 zd_byt (by decide) (show okE 1 = true from by decide) (TabK.later hw (by simp) hK)) ?_
      refine L_v rfl rfl rfl (V_move rfl rfl) ?_
      refine L_v rfl rfl rfl (V_extract rfl rfl rfl) ?_
      refine L_v rfl rfl rfl (V_extract rfl rfl rfl) ?_
      refine L_alloc rfl rfl rfl rfl z32pk (fun b3 => ?_)
      refine L_storeW 3 rfl rfl rfl rfl rfl rfl (szd sz32pk (by kernel_rfl)) (all_one (by kernel_rfl)) (by kernel_rfl) ?_
      refine L_v rfl rfl rfl (V_assign rfl rfl) ?_
      refine L_nil ?_
      change J _ _ _ _
      refine J_seq ?_
      refine J_region ?_
      refine L_v rfl rfl rfl (V_move rfl rfl) ?_
      refine L_v rfl rfl rfl (V_loadT 3 (vs := sgM ((1, rt, dz), sn)) rfl rfl rfl Tryd.underlying32 rfl sz32pk (by kernel_rfl) (by kernel_rfl)) ?_
      refine L_v rfl rfl rfl (V_buildE (v := .agg (rpM (rpV [vk] ((1, rt, dz), sn)) (some ⟨b0, 0, none⟩, 1) slN).toArray) rfl rfl (fun w => by kernel_rfl)) ?_
      refine L_alloc rfl rfl rfl rfl z34pk (fun b4 => ?_)
      refine L_storeW 4 rfl rfl rfl rfl rfl rfl (szd sz34pk (by kernel_rfl)) (all_one (by kernel_rfl)) (by kernel_rfl) ?_
      refine L_nil ?_
      change J _ _ _ _
      refine J_seq ?_
      refine J_region ?_
      refine L_v rfl rfl rfl (V_loadT 4 (vs := rpM (rpV [vk] ((1, rt, dz), sn)) (some ⟨b0, 0, none⟩, 1) slN) rfl rfl rfl Tryd.underlying34 rfl sz34pk (by kernel_rfl) (by kernel_rfl)) ?_
      refine L_alloc rfl rfl rfl rfl z34pk (fun b5 => ?_)
      refine L_storeW 5 rfl rfl rfl rfl rfl rfl (szd sz34pk (by kernel_rfl)) (all_one (by kernel_rfl)) (by kernel_rfl) ?_
      refine L_nil ?_
      change J _ _ _ _
      refine J_seq ?_
      refine J_region ?_
      refine L_v rfl rfl rfl (V_buildE (v := .agg (vrM vx).toArray) rfl rfl (fun w => by kernel_rfl)) ?_
      refine L_buildSlice (vs := [(0, .agg (vrM vx).toArray)]) (l := vrM vx) rfl rfl rfl rfl rfl (bs1v vx) (fun b6 => ?_)
      refine L_v rfl rfl rfl (V_fieldAddr rfl rfl Tryd.underlying34 rfl sz23pk rfl) ?_
      refine L_store1 5 (l' := rpM (rpV [vx] ((1, rt, dz), sn)) (some ⟨b6, 0, none⟩, 1) slN) rfl rfl rfl rfl rfl rfl rfl sz23pk (Nat.le_of_ble_eq_true (by kernel_rfl)) (by kernel_rfl) ?_
      refine L_nil ?_
      change J _ _ _ _
      refine J_seq ?_
      refine J_region ?_
      refine L_v rfl rfl rfl (V_move rfl rfl) ?_
      refine L_v rfl rfl rfl (V_eql rfl rfl rfl (decide_eq_true rfl)) ?_
      refine L_v rfl rfl rfl (V_move rfl rfl) ?_
      refine L_wv rfl rfl rfl rfl rfl rfl (V_move rfl rfl) ?_
      refine L_wv rfl rfl rfl rfl rfl rfl (V_eql rfl rfl rfl (decide_eq_true rfl)) ?_
      first | refine L_v rfl rfl rfl (V_pickT rfl rfl rfl) ?_ | refine L_v rfl rfl rfl (V_pickF rfl rfl rfl) ?_
      refine L_v rfl rfl rfl (V_move rfl rfl) ?_
      refine L_wv rfl rfl rfl rfl rfl rfl (V_loadT 4 (vs := rpM (rpV [vk] ((1, rt, dz), sn)) (some ⟨b0, 0, none⟩, 1) slN) rfl rfl rfl Tryd.underlying34 rfl sz34pk (by kernel_rfl) (by kernel_rfl)) ?_
      refine L_wcallV rfl rfl rfl rfl rfl rfl rfl rfl rfl tx7pk (fun w1 hw => verify_e E1 _ _ w1 (rpW_of (l := [vk]) (by decide) (slc_row hw (i := 0) (ks := vrM vk) rfl rfl 1) (Nat.le_refl 1) hsg) (by decide) (TabK.later hw (by simp) hK)) ?_
      refine L_wv rfl rfl rfl rfl rfl rfl (V_eql rfl rfl rfl (decide_eq_true rfl)) ?_
      first | refine L_v rfl rfl rfl (V_pickT rfl rfl rfl) ?_ | refine L_v rfl rfl rfl (V_pickF rfl rfl rfl) ?_
      refine L_v rfl rfl rfl (V_move rfl rfl) ?_
      refine L_wv rfl rfl rfl rfl rfl rfl (V_loadT 4 (vs := rpM (rpV [vk] ((1, rt, dz), sn)) (some ⟨b0, 0, none⟩, 1) slN) rfl rfl rfl Tryd.underlying34 rfl sz34pk (by kernel_rfl) (by kernel_rfl)) ?_
      refine L_wcallV rfl rfl rfl rfl rfl rfl rfl rfl rfl tx7pk (fun w1 hw => verify_e E2 _ _ w1 (rpW_of (l := [vk]) (by decide) (slc_row hw (i := 0) (ks := vrM vk) rfl rfl 1) (Nat.le_refl 1) hsg) (by decide) (TabK.later hw (by simp) hK)) ?_
      refine L_wv rfl rfl rfl rfl rfl rfl (V_eql rfl rfl rfl (decide_eq_true rfl)) ?_
      first | refine L_v rfl rfl rfl (V_pickT rfl rfl rfl) ?_ | refine L_v rfl rfl rfl (V_pickF rfl rfl rfl) ?_
      refine L_v rfl rfl rfl (V_move rfl rfl) ?_
      refine L_wv rfl rfl rfl rfl rfl rfl (V_loadT 5 (vs := rpM (rpV [vx] ((1, rt, dz), sn)) (some ⟨b6, 0, none⟩, 1) slN) rfl rfl rfl Tryd.underlying34 rfl sz34pk (by kernel_rfl) (by kernel_rfl)) ?_
      refine L_wcallV rfl rfl rfl rfl rfl rfl rfl rfl rfl tx7pk (fun w1 hw => verify_e E3 _ _ w1 (rpW_of (l := [vx]) (by decide) (slc_row hw (i := 6) (ks := vrM vx) rfl rfl 1) (Nat.le_refl 1) hsg) (by decide) (TabK.later hw (by simp) hK)) ?_
      refine L_wv rfl rfl rfl rfl rfl rfl (V_eql rfl rfl rfl (decide_eq_true rfl)) ?_
      first | refine L_v rfl rfl rfl (V_pickT rfl rfl rfl) ?_ | refine L_v rfl rfl rfl (V_pickF rfl rfl rfl) ?_
      refine L_v rfl rfl rfl (V_move rfl rfl) ?_
      refine L_wv rfl rfl rfl rfl rfl rfl (V_loadT 3 (vs := sgM ((1, rt, dz), sn)) rfl rfl rfl Tryd.underlying32 rfl sz32pk (by kernel_rfl) (by kernel_rfl)) ?_
      refine L_wv rfl rfl rfl rfl rfl rfl (V_buildE (v := .agg (rpM (rpV [] ((1, rt, dz), sn)) slN slN).toArray) rfl rfl (fun w => by kernel_rfl)) ?_
      refine L_wcallV rfl rfl rfl rfl rfl rfl rfl rfl rfl tx7pk (fun w1 hw => verify_e E4 slN slN w1 (rpW_of (l := []) (by decide) (.inl ⟨rfl, rfl, none, 0, rfl⟩) (Nat.le_refl 0) hsg) (by decide) (TabK.later hw (by simp) hK)) ?_
      refine L_wv rfl rfl rfl rfl rfl rfl (V_eql rfl rfl rfl (decide_eq_true rfl)) ?_
      first | refine L_v rfl rfl rfl (V_pickT rfl rfl rfl) ?_ | refine L_v rfl rfl rfl (V_pickF rfl rfl rfl) ?_
      refine L_v rfl rfl rfl (V_assign rfl rfl) ?_
      refine L_nil ?_
      change J _ _ _ _
      refine J_ret ?_
      change Kret _ _ _ Exit.ret _
      refine ret1 rfl rfl (RV_t rfl) ?_
      exact fun w' h => ⟨rfl, h.fr⟩
    ·
      refine LO_s rfl rfl rfl (S_alloc rfl rfl rfl z26pk (fun b2 => ⟨(Pk.of_sub (List.Sublist.cons_cons _ (List.Sublist.cons_cons _ (List.nil_sublist _)))), (fun f hf => hf), ?_⟩))
      refine LO_callV rfl rfl rfl rfl rfl rfl rfl rfl tx15pk (fun w1 hw => leaf5_w p dk rt hrt w1 hpb hkb (TabK.later hw (by simp) hK)) (Pk.of_sub (List.Sublist.cons_cons _ (List.Sublist.cons_cons _ (List.nil_sublist _)))) (fun f hf => hf) ?_
      refine LO_s rfl rfl rfl (S_storeW 2 rfl rfl rfl rfl rfl (szd sz26pk (by kernel_rfl)) (all_one (by kernel_rfl)) (by kernel_rfl) ⟨(Pk.of_sub (List.Sublist.cons_cons _ (List.Sublist.cons_cons _ (List.nil_sublist _)))), (fun f hf => hf), ?_⟩)
      refine LO_nil ?_
      change J _ _ _ _
      refine J_seq ?_
      refine J_region ?_
      refine L_v rfl rfl rfl (V_loadT 2 (vs := dgM rt) rfl rfl rfl Tryd.underlying26 rfl sz26pk (by kernel_rfl) (by kernel_rfl)) ?_
      refine L_v rfl rfl rfl (V_buildE (v := .agg (hdM (1, rt, dz)).toArray) rfl rfl (fun w => by kernel_rfl)) ?_
      refine L_callV rfl rfl rfl rfl rfl rfl tx16pk (fun w1 hw => sign_m (h := (1, rt, dz)) hsn w1 hsg.1 zd_byt (by decide) (show okE 1 = true from by decide) (TabK.later hw (by simp) hK)) ?_
      refine L_v rfl rfl rfl (V_move rfl rfl) ?_
      refine L_v rfl rfl rfl (V_extract rfl rfl rfl) ?_
      refine L_v rfl rfl rfl (V_extract rfl rfl rfl) ?_
      refine L_alloc rfl rfl rfl rfl z32pk (fun b3 => ?_)
      refine L_storeW 3 rfl rfl rfl rfl rfl rfl (szd sz32pk (by kernel_rfl)) (all_one (by kernel_rfl)) (by kernel_rfl) ?_
      refine L_v rfl rfl rfl (V_assign rfl rfl) ?_
      refine L_nil ?_
      change J _ _ _ _
      refine J_seq ?_
      refine J_region ?_
      refine L_v rfl rfl rfl (V_move rfl rfl) ?_
      refine L_v rfl rfl rfl (V_loadT 3 (vs := sgM ((1, rt, dz), sn)) rfl rfl rfl Tryd.underlying32 rfl sz32pk (by kernel_rfl) (by kernel_rfl)) ?_
      refine L_v rfl rfl rfl (V_buildE (v := .agg (rpM (rpV [vk] ((1, rt, dz), sn)) (some ⟨b0, 0, none⟩, 1) slN).toArray) rfl rfl (fun w => by kernel_rfl)) ?_
      refine L_alloc rfl rfl rfl rfl z34pk (fun b4 => ?_)
      refine L_storeW 4 rfl rfl rfl rfl rfl rfl (szd sz34pk (by kernel_rfl)) (all_one (by kernel_rfl)) (by kernel_rfl) ?_
      refine L_nil ?_
      change J _ _ _ _
      refine J_seq ?_
      refine J_region ?_
      refine L_v rfl rfl rfl (V_loadT 4 (vs := rpM (rpV [vk] ((1, rt, dz), sn)) (some ⟨b0, 0, none⟩, 1) slN) rfl rfl rfl Tryd.underlying34 rfl sz34pk (by kernel_rfl) (by kernel_rfl)) ?_
      refine L_alloc rfl rfl rfl rfl z34pk (fun b5 => ?_)
      refine L_storeW 5 rfl rfl rfl rfl rfl rfl (szd sz34pk (by kernel_rfl)) (all_one (by kernel_rfl)) (by kernel_rfl) ?_
      refine L_nil ?_
      change J _ _ _ _
      refine J_seq ?_
      refine J_region ?_
      refine L_v rfl rfl rfl (V_buildE (v := .agg (vrM vx).toArray) rfl rfl (fun w => by kernel_rfl)) ?_
      refine L_buildSlice (vs := [(0, .agg (vrM vx).toArray)]) (l := vrM vx) rfl rfl rfl rfl rfl (bs1v vx) (fun b6 => ?_)
      refine L_v rfl rfl rfl (V_fieldAddr rfl rfl Tryd.underlying34 rfl sz23pk rfl) ?_
      refine L_store1 5 (l' := rpM (rpV [vx] ((1, rt, dz), sn)) (some ⟨b6, 0, none⟩, 1) slN) rfl rfl rfl rfl rfl rfl rfl sz23pk (Nat.le_of_ble_eq_true (by kernel_rfl)) (by kernel_rfl) ?_
      refine L_nil ?_
      change J _ _ _ _
      refine J_seq ?_
      refine J_region ?_
      refine L_v rfl rfl rfl (V_move rfl rfl) ?_
      refine L_v rfl rfl rfl (V_eql rfl rfl rfl (decide_eq_true rfl)) ?_
      refine L_v rfl rfl rfl (V_move rfl rfl) ?_
      refine L_wv rfl rfl rfl rfl rfl rfl (V_move rfl rfl) ?_
      refine L_wv rfl rfl rfl rfl rfl rfl (V_eql rfl rfl rfl (decide_eq_true rfl)) ?_
      first | refine L_v rfl rfl rfl (V_pickT rfl rfl rfl) ?_ | refine L_v rfl rfl rfl (V_pickF rfl rfl rfl) ?_
      refine L_v rfl rfl rfl (V_move rfl rfl) ?_
      refine L_wv rfl rfl rfl rfl rfl rfl (V_loadT 4 (vs := rpM (rpV [vk] ((1, rt, dz), sn)) (some ⟨b0, 0, none⟩, 1) slN) rfl rfl rfl Tryd.underlying34 rfl sz34pk (by kernel_rfl) (by kernel_rfl)) ?_
      refine L_wcallV rfl rfl rfl rfl rfl rfl rfl rfl rfl tx7pk (fun w1 hw => verify_e E1 _ _ w1 (rpW_of (l := [vk]) (by decide) (slc_row hw (i := 0) (ks := vrM vk) rfl rfl 1) (Nat.le_refl 1) hsg) (by decide) (TabK.later hw (by simp) hK)) ?_
      refine L_wv rfl rfl rfl rfl rfl rfl (V_eql rfl rfl rfl (decide_eq_true rfl)) ?_
      first | refine L_v rfl rfl rfl (V_pickT rfl rfl rfl) ?_ | refine L_v rfl rfl rfl (V_pickF rfl rfl rfl) ?_
      refine L_v rfl rfl rfl (V_move rfl rfl) ?_
      refine L_wv rfl rfl rfl rfl rfl rfl (V_loadT 4 (vs := rpM (rpV [vk] ((1, rt, dz), sn)) (some ⟨b0, 0, none⟩, 1) slN) rfl rfl rfl Tryd.underlying34 rfl sz34pk (by kernel_rfl) (by kernel_rfl)) ?_
      refine L_wcallV rfl rfl rfl rfl rfl rfl rfl rfl rfl tx7pk (fun w1 hw => verify_e E2 _ _ w1 (rpW_of (l := [vk]) (by decide) (slc_row hw (i := 0) (ks := vrM vk) rfl rfl 1) (Nat.le_refl 1) hsg) (by decide) (TabK.later hw (by simp) hK)) ?_
      refine L_wv rfl rfl rfl rfl rfl rfl (V_eql rfl rfl rfl (decide_eq_true rfl)) ?_
      first | refine L_v rfl rfl rfl (V_pickT rfl rfl rfl) ?_ | refine L_v rfl rfl rfl (V_pickF rfl rfl rfl) ?_
      refine L_v rfl rfl rfl (V_move rfl rfl) ?_
      refine L_wv rfl rfl rfl rfl rfl rfl (V_loadT 5 (vs := rpM (rpV [vx] ((1, rt, dz), sn)) (some ⟨b6, 0, none⟩, 1) slN) rfl rfl rfl Tryd.underlying34 rfl sz34pk (by kernel_rfl) (by kernel_rfl)) ?_
      refine L_wcallV rfl rfl rfl rfl rfl rfl rfl rfl rfl tx7pk (fun w1 hw => verify_e E3 _ _ w1 (rpW_of (l := [vx]) (by decide) (slc_row hw (i := 6) (ks := vrM vx) rfl rfl 1) (Nat.le_refl 1) hsg) (by decide) (TabK.later hw (by simp) hK)) ?_
      refine L_wv rfl rfl rfl rfl rfl rfl (V_eql rfl rfl rfl (decide_eq_true rfl)) ?_
      first | refine L_v rfl rfl rfl (V_pickT rfl rfl rfl) ?_ | refine L_v rfl rfl rfl (V_pickF rfl rfl rfl) ?_
      refine L_v rfl rfl rfl (V_move rfl rfl) ?_
      refine L_wv rfl rfl rfl rfl rfl rfl (V_loadT 3 (vs := sgM ((1, rt, dz), sn)) rfl rfl rfl Tryd.underlying32 rfl sz32pk (by kernel_rfl) (by kernel_rfl)) ?_
      refine L_wv rfl rfl rfl rfl rfl rfl (V_buildE (v := .agg (rpM (rpV [] ((1, rt, dz), sn)) slN slN).toArray) rfl rfl (fun w => by kernel_rfl)) ?_
      refine L_wcallV rfl rfl rfl rfl rfl rfl rfl rfl rfl tx7pk (fun w1 hw => verify_e E4 slN slN w1 (rpW_of (l := []) (by decide) (.inl ⟨rfl, rfl, none, 0, rfl⟩) (Nat.le_refl 0) hsg) (by decide) (TabK.later hw (by simp) hK)) ?_
      refine L_wv rfl rfl rfl rfl rfl rfl (V_eql rfl rfl rfl (decide_eq_true rfl)) ?_
      first | refine L_v rfl rfl rfl (V_pickT rfl rfl rfl) ?_ | refine L_v rfl rfl rfl (V_pickF rfl rfl rfl) ?_
      refine L_v rfl rfl rfl (V_assign rfl rfl) ?_
      refine L_nil ?_
      change J _ _ _ _
      refine J_ret ?_
      change Kret _ _ _ Exit.ret _
      refine ret1 rfl rfl (RV_t rfl) ?_
      exact fun w' h => ⟨rfl, h.fr⟩
  ·
    refine LO_s rfl rfl rfl (S_alloc rfl rfl rfl z26pk (fun b2 => ⟨(Pk.of_sub (List.Sublist.cons_cons _ (List.Sublist.cons_cons _ (List.nil_sublist _)))), (fun f hf => hf), ?_⟩))
    refine LO_callV rfl rfl rfl rfl rfl rfl rfl rfl tx12pk (fun w1 hw => of_e hp w1 (TabK.later hw (by simp) hK) (by decide)) (Pk.of_sub (List.Sublist.cons_cons _ (List.Sublist.cons_cons _ (List.nil_sublist _)))) (fun f hf => hf) ?_
    refine LO_v rfl rfl rfl rfl (V_buildE (v := .agg (lfM p dk).toArray) rfl rfl (fun w => by kernel_rfl)) ?_
    refine LO_callV rfl rfl rfl rfl rfl rfl rfl rfl tx15pk (fun w1 hw => leaf5_w p dk rt hrt w1 hpb hkb (TabK.later hw (by simp) hK)) (Pk.of_sub (List.Sublist.cons_cons _ (List.Sublist.cons_cons _ (List.nil_sublist _)))) (fun f hf => hf) ?_
    refine LO_s rfl rfl rfl (S_storeW 2 rfl rfl rfl rfl rfl (szd sz26pk (by kernel_rfl)) (all_one (by kernel_rfl)) (by kernel_rfl) ⟨(Pk.of_sub (List.Sublist.cons_cons _ (List.Sublist.cons_cons _ (List.nil_sublist _)))), (fun f hf => hf), ?_⟩)
    refine LO_nil ?_
    change J _ _ _ _
    refine J_seq ?_
    refine J_region ?_
    refine L_v rfl rfl rfl (V_loadT 2 (vs := dgM rt) rfl rfl rfl Tryd.underlying26 rfl sz26pk (by kernel_rfl) (by kernel_rfl)) ?_
    refine L_v rfl rfl rfl (V_buildE (v := .agg (hdM (1, rt, dz)).toArray) rfl rfl (fun w => by kernel_rfl)) ?_
    refine L_callV rfl rfl rfl rfl rfl rfl tx16pk (fun w1 hw => sign_m (h := (1, rt, dz)) hsn w1 hsg.1 zd_byt (by decide) (show okE 1 = true from by decide) (TabK.later hw (by simp) hK)) ?_
    refine L_v rfl rfl rfl (V_move rfl rfl) ?_
    refine L_v rfl rfl rfl (V_extract rfl rfl rfl) ?_
    refine L_v rfl rfl rfl (V_extract rfl rfl rfl) ?_
    refine L_alloc rfl rfl rfl rfl z32pk (fun b3 => ?_)
    refine L_storeW 3 rfl rfl rfl rfl rfl rfl (szd sz32pk (by kernel_rfl)) (all_one (by kernel_rfl)) (by kernel_rfl) ?_
    refine L_v rfl rfl rfl (V_assign rfl rfl) ?_
    refine L_nil ?_
    change J _ _ _ _
    refine J_seq ?_
    refine J_region ?_
    refine L_v rfl rfl rfl (V_move rfl rfl) ?_
    refine L_v rfl rfl rfl (V_loadT 3 (vs := sgM ((1, rt, dz), sn)) rfl rfl rfl Tryd.underlying32 rfl sz32pk (by kernel_rfl) (by kernel_rfl)) ?_
    refine L_v rfl rfl rfl (V_buildE (v := .agg (rpM (rpV [vk] ((1, rt, dz), sn)) (some ⟨b0, 0, none⟩, 1) slN).toArray) rfl rfl (fun w => by kernel_rfl)) ?_
    refine L_alloc rfl rfl rfl rfl z34pk (fun b4 => ?_)
    refine L_storeW 4 rfl rfl rfl rfl rfl rfl (szd sz34pk (by kernel_rfl)) (all_one (by kernel_rfl)) (by kernel_rfl) ?_
    refine L_nil ?_
    change J _ _ _ _
    refine J_seq ?_
    refine J_region ?_
    refine L_v rfl rfl rfl (V_loadT 4 (vs := rpM (rpV [vk] ((1, rt, dz), sn)) (some ⟨b0, 0, none⟩, 1) slN) rfl rfl rfl Tryd.underlying34 rfl sz34pk (by kernel_rfl) (by kernel_rfl)) ?_
    refine L_alloc rfl rfl rfl rfl z34pk (fun b5 => ?_)
    refine L_storeW 5 rfl rfl rfl rfl rfl rfl (szd sz34pk (by kernel_rfl)) (all_one (by kernel_rfl)) (by kernel_rfl) ?_
    refine L_nil ?_
    change J _ _ _ _
    refine J_seq ?_
    refine J_region ?_
    refine L_v rfl rfl rfl (V_buildE (v := .agg (vrM vx).toArray) rfl rfl (fun w => by kernel_rfl)) ?_
    refine L_buildSlice (vs := [(0, .agg (vrM vx).toArray)]) (l := vrM vx) rfl rfl rfl rfl rfl (bs1v vx) (fun b6 => ?_)
    refine L_v rfl rfl rfl (V_fieldAddr rfl rfl Tryd.underlying34 rfl sz23pk rfl) ?_
    refine L_store1 5 (l' := rpM (rpV [vx] ((1, rt, dz), sn)) (some ⟨b6, 0, none⟩, 1) slN) rfl rfl rfl rfl rfl rfl rfl sz23pk (Nat.le_of_ble_eq_true (by kernel_rfl)) (by kernel_rfl) ?_
    refine L_nil ?_
    change J _ _ _ _
    refine J_seq ?_
    refine J_region ?_
    refine L_v rfl rfl rfl (V_move rfl rfl) ?_
    refine L_v rfl rfl rfl (V_eql rfl rfl rfl (decide_eq_true rfl)) ?_
    refine L_v rfl rfl rfl (V_move rfl rfl) ?_
    refine L_wv rfl rfl rfl rfl rfl rfl (V_move rfl rfl) ?_
    refine L_wv rfl rfl rfl rfl rfl rfl (V_eql rfl rfl rfl (decide_eq_true rfl)) ?_
    first | refine L_v rfl rfl rfl (V_pickT rfl rfl rfl) ?_ | refine L_v rfl rfl rfl (V_pickF rfl rfl rfl) ?_
    refine L_v rfl rfl rfl (V_move rfl rfl) ?_
    refine L_wv rfl rfl rfl rfl rfl rfl (V_loadT 4 (vs := rpM (rpV [vk] ((1, rt, dz), sn)) (some ⟨b0, 0, none⟩, 1) slN) rfl rfl rfl Tryd.underlying34 rfl sz34pk (by kernel_rfl) (by kernel_rfl)) ?_
    refine L_wcallV rfl rfl rfl rfl rfl rfl rfl rfl rfl tx7pk (fun w1 hw => verify_e E1 _ _ w1 (rpW_of (l := [vk]) (by decide) (slc_row hw (i := 0) (ks := vrM vk) rfl rfl 1) (Nat.le_refl 1) hsg) (by decide) (TabK.later hw (by simp) hK)) ?_
    refine L_wv rfl rfl rfl rfl rfl rfl (V_eql rfl rfl rfl (decide_eq_true rfl)) ?_
    first | refine L_v rfl rfl rfl (V_pickT rfl rfl rfl) ?_ | refine L_v rfl rfl rfl (V_pickF rfl rfl rfl) ?_
    refine L_v rfl rfl rfl (V_move rfl rfl) ?_
    refine L_wv rfl rfl rfl rfl rfl rfl (V_loadT 4 (vs := rpM (rpV [vk] ((1, rt, dz), sn)) (some ⟨b0, 0, none⟩, 1) slN) rfl rfl rfl Tryd.underlying34 rfl sz34pk (by kernel_rfl) (by kernel_rfl)) ?_
    refine L_wcallV rfl rfl rfl rfl rfl rfl rfl rfl rfl tx7pk (fun w1 hw => verify_e E2 _ _ w1 (rpW_of (l := [vk]) (by decide) (slc_row hw (i := 0) (ks := vrM vk) rfl rfl 1) (Nat.le_refl 1) hsg) (by decide) (TabK.later hw (by simp) hK)) ?_
    refine L_wv rfl rfl rfl rfl rfl rfl (V_eql rfl rfl rfl (decide_eq_true rfl)) ?_
    first | refine L_v rfl rfl rfl (V_pickT rfl rfl rfl) ?_ | refine L_v rfl rfl rfl (V_pickF rfl rfl rfl) ?_
    refine L_v rfl rfl rfl (V_move rfl rfl) ?_
    refine L_wv rfl rfl rfl rfl rfl rfl (V_loadT 5 (vs := rpM (rpV [vx] ((1, rt, dz), sn)) (some ⟨b6, 0, none⟩, 1) slN) rfl rfl rfl Tryd.underlying34 rfl sz34pk (by kernel_rfl) (by kernel_rfl)) ?_
    refine L_wcallV rfl rfl rfl rfl rfl rfl rfl rfl rfl tx7pk (fun w1 hw => verify_e E3 _ _ w1 (rpW_of (l := [vx]) (by decide) (slc_row hw (i := 6) (ks := vrM vx) rfl rfl 1) (Nat.le_refl 1) hsg) (by decide) (TabK.later hw (by simp) hK)) ?_
    refine L_wv rfl rfl rfl rfl rfl rfl (V_eql rfl rfl rfl (decide_eq_true rfl)) ?_
    first | refine L_v rfl rfl rfl (V_pickT rfl rfl rfl) ?_ | refine L_v rfl rfl rfl (V_pickF rfl rfl rfl) ?_
    refine L_v rfl rfl rfl (V_move rfl rfl) ?_
    refine L_wv rfl rfl rfl rfl rfl rfl (V_loadT 3 (vs := sgM ((1, rt, dz), sn)) rfl rfl rfl Tryd.underlying32 rfl sz32pk (by kernel_rfl) (by kernel_rfl)) ?_
    refine L_wv rfl rfl rfl rfl rfl rfl (V_buildE (v := .agg (rpM (rpV [] ((1, rt, dz), sn)) slN slN).toArray) rfl rfl (fun w => by kernel_rfl)) ?_
    refine L_wcallV rfl rfl rfl rfl rfl rfl rfl rfl rfl tx7pk (fun w1 hw => verify_e E4 slN slN w1 (rpW_of (l := []) (by decide) (.inl ⟨rfl, rfl, none, 0, rfl⟩) (Nat.le_refl 0) hsg) (by decide) (TabK.later hw (by simp) hK)) ?_
    refine L_wv rfl rfl rfl rfl rfl rfl (V_eql rfl rfl rfl (decide_eq_true rfl)) ?_
    first | refine L_v rfl rfl rfl (V_pickT rfl rfl rfl) ?_ | refine L_v rfl rfl rfl (V_pickF rfl rfl rfl) ?_
    refine L_v rfl rfl rfl (V_assign rfl rfl) ?_
    refine L_nil ?_
    change J _ _ _ _
    refine J_ret ?_
    change Kret _ _ _ Exit.ret _
    refine ret1 rfl rfl (RV_t rfl) ?_
    exact fun w' h => ⟨rfl, h.fr⟩

theorem verifies_w (w : World) (hK : TabK KT 1 w) : Calls Tryd.prog 6 #[] w fun e w' => e = .returned (.bool true) ∧ Fr [] w w' := verifies_v _ _ _ _ rfl rfl rfl rfl (pathD_b _) (shD_byt _) sg_b e_1 e_2 e_3 e_4 w hK

end Go.Proofs.YtfdmjjhgdbpfeaaDoor

/- What is gone through, collected. -/
set_option linter.unusedVariables false
set_option linter.unusedSimpArgs false
set_option maxRecDepth 100000
namespace Go.Proofs.YtfdmjjhgdbpfeaaDoor
open Go.Sx
theorem J_midS {cx : Cx} {Kx : Exit → St → Prop} {c y : Code} {st : St} {X : Type} (s : X → St) (h1 : J cx c (Go.Sx.Exit.thenS (fun st' => ∃ b, sub (s b).env st'.env ∧ (∀ w, OkW cx st'.mem st'.facts w → OkW cx (s b).mem (s b).facts w) ∧ st'.ds = (s b).ds) Kx) st) (h2 : ∀ b, J cx y Kx (s b)) : J cx c (Go.Sx.Exit.thenS (J cx y Kx) Kx) st :=
  h1.mono fun e s' h => by
    cases e with
    | normal => obtain ⟨b, hs, hc, hd⟩ := h; exact fun a w ho => h2 b a w ⟨hd ▸ ho.a.sub hs, hc w ho.w⟩
    | exit id => exact h
    | goto l => exact h
    | ret => exact h
    | panic c => exact h
    | outgrown => exact h
theorem OkW.addF {cx : Cx} {m : Mem} {fs : List Fact} {w : World} {f : Fact} (h : OkW cx m fs w) (hf : FA w f) (hd : ∀ k, f.fp k → k ∉ m.map (·.1)) : OkW cx m (fs ++ [f]) w :=
  ⟨h.mem, h.dis, h.may, fun g hg => by
    rcases List.mem_append.1 hg with hg | hg
    · exact h.facts g hg
    · obtain rfl := List.mem_singleton.1 hg
      exact ⟨hf.1, fun k hk => ⟨hf.2 k hk, hd k hk⟩⟩, h.fr⟩
def SLk (p : Dg) (c : Cm) (x : Pf) (k : Nat) (y : Nat × Nat) : Value := .slice (some ⟨y.1, 0, none⟩) (upP p c x k).length ((upP p c x k).length + y.2)
def rgC (p : Dg) (c : Cm) (x : Pf) (N : Nat) (f : Nat → Nat × Nat) : List Value := (List.range N).map fun j => SLk p c x j (f j)
def upd (f : Nat → Nat × Nat) (k : Nat) (y : Nat × Nat) : Nat → Nat × Nat := fun j => if j = k then y else f j
theorem map_upd {β : Type} (g : Nat → Nat × Nat → β) (k : Nat) (f : Nat → Nat × Nat) (y : Nat × Nat) : (List.range (k + 1)).map (fun j => g j (upd f k y j)) = (List.range k).map (fun j => g j (f j)) ++ [g k y] := by
  rw [List.range_succ, List.map_append]
  congr 1
  · exact List.map_congr_left fun j hj => by
      have := List.mem_range.1 hj
      unfold upd
      rw [if_neg (by omega)]
  · simp [upd]
theorem rgC_len (p : Dg) (c : Cm) (x : Pf) (N : Nat) (f : Nat → Nat × Nat) : (rgC p c x N f).length = N := by simp [rgC]
def rgG (p : Dg) (c : Cm) (x : Pf) (w0 : World) (N : Nat) (f : Nat → Nat × Nat) : List Fact := (List.range N).map fun j => rgY p c x w0 [] j (f j)
def coM (b0 : Nat) (p : Dg) (c : Cm) (x : Pf) (k : Nat) (z : OwnR × (Nat → Nat × Nat)) : Mem := (b0, row 98 [ownV z.1 k]) :: ownM 57 z.1 (rgC p c x k z.2)
def coG (p : Dg) (c : Cm) (x : Pf) (w0 : World) (F : List Fact) (k : Nat) (z : OwnR × (Nat → Nat × Nat)) : List Fact := pureF (OwnC 1 z.1 k (rgC p c x k z.2)) :: (F ++ rgG p c x w0 k z.2)
section
variable {p : Dg} {c : Cm} {x : Pf} {w0 : World} {F : List Fact} {k : Nat} {q q' : OwnR} {f : Nat → Nat × Nat} {y : Nat × Nat}
theorem co_sub : ∀ g ∈ F ++ rgG p c x w0 (k + 1) (upd f k y), g ∈ coG p c x w0 F k (q, f) ++ [rgY p c x w0 [] k y] := by
  intro g hg
  rcases List.mem_append.1 hg with hg | hg
  · exact List.mem_append_left _ (List.mem_cons_of_mem _ (List.mem_append_left _ hg))
  · unfold rgG at hg
    rw [map_upd (fun j z => rgY p c x w0 [] j z)] at hg
    rcases List.mem_append.1 hg with hg | hg
    · exact List.mem_append_left _ (List.mem_cons_of_mem _ (List.mem_append_right _ hg))
    · exact List.mem_append_right _ hg
theorem co_gs (m : Mem) : GS (coG p c x w0 F k (q, f) ++ [rgY p c x w0 [] k y]) (coG p c x w0 F (k + 1) (q', upd f k y)) m := by
  intro g hg
  rcases List.mem_cons.1 hg with rfl | hg
  · exact .inr fun b hb => hb.elim
  · exact .inl (co_sub g hg)
theorem co_next {cx : Cx} {m : Mem} {w : World} (h : OkW cx m (coG p c x w0 F k (q, f) ++ [rgY p c x w0 [] k y]) w) (hq : OwnC 1 q' (k + 1) (rgC p c x (k + 1) (upd f k y))) : OkW cx m (coG p c x w0 F (k + 1) (q', upd f k y)) w :=
  (h.sub (List.Sublist.refl _) co_sub).addP hq
end
def CollR (p : Dg) (c : Cm) (x : Pf) (w : World) (N : Nat) (e : Ending) (w' : World) : Prop :=
  ∃ (g cc : Nat) (r : List Value) (f : Nat → Nat × Nat), e = .returned (.slice (some ⟨g, 0, none⟩) N cc) ∧ Fr [] w w' ∧ w.heap.size ≤ g ∧ w'.heap[g]? = some (row 57 (rgC p c x N f ++ r)) ∧ ∀ j, j < N → FA w' (rgY p c x w [] j (f j)) ∧ (f j).1 ≠ g
theorem coll_end {P : Program} {nt : Nat} {p : Dg} {c : Cm} {x : Pf} {w w' : World} {F : List Fact} {A : Mem} {N : Nat} {q : OwnR} {f : Nat → Nat × Nat} (h : OkW { P := P, w0 := w, nt := nt } (A ++ ownM 57 q (rgC p c x N f)) (coG p c x w F N (q, f)) w') (hN : 0 < N) : CollR p c x w N (.returned (ownV q N)) w' := by
  have hq : OwnC 1 q N (rgC p c x N f) := (h.facts _ List.mem_cons_self).1
  obtain ⟨g, cc, r, rfl, _, _, _⟩ := hq.forms hN
  have hg : (g, row 57 (rgC p c x N f ++ r)) ∈ A ++ ownM 57 (some (g, cc, r)) (rgC p c x N f) := List.mem_append_right _ (List.mem_singleton.2 rfl)
  refine ⟨g, cc, r, f, rfl, h.fr, ?_, h.mem _ _ hg, fun j hj => ?_⟩
  · rcases h.may g (List.mem_map.2 ⟨_, hg, rfl⟩) with h1 | h1
    · exact h1
    · cases h1
  · have hm : rgY p c x w [] j (f j) ∈ coG p c x w F N (some (g, cc, r), f) := List.mem_cons_of_mem _ (List.mem_append_right _ (List.mem_map.2 ⟨j, List.mem_range.2 hj, rfl⟩))
    have h2 := h.facts _ hm
    refine ⟨⟨h2.1, fun b hb => (h2.2 b hb).1⟩, fun e => ?_⟩
    have hfp : (rgY p c x w [] j (f j)).fp (f j).1 := ⟨fun e => by have := (upP_len p c x j).2; rw [e] at this; exact absurd this (by decide), _, _, _, rfl⟩
    exact (h2.2 _ hfp).2 (List.mem_map.2 ⟨_, hg, e.symm⟩)
def byF (w0 : World) (p : Dg) (c : Cm) (x : Pf) (N : Nat) (f : Nat → Nat × Nat) : Fact := allF ((List.range N).map fun j => rgY p c x w0 [] j (f j))
theorem coll_ok {cx : Cx} {m : Mem} {fs : List Fact} {w w' : World} {p : Dg} {c : Cm} {x : Pf} {N g : Nat} {r : List Value} {f : Nat → Nat × Nat} (h : OkW cx m fs w) (hfr : Fr [] w w') (hsz : w.heap.size ≤ g) (hb : w'.heap[g]? = some (row 57 (rgC p c x N f ++ r))) (hf : ∀ j, j < N → FA w' (rgY p c x w [] j (f j)) ∧ (f j).1 ≠ g) :
    OkW cx (m ++ [(g, row 57 (rgC p c x N f ++ r))]) (fs ++ [byF cx.w0 p c x N f]) w' := by
  have key : ∀ j, j < N → w.heap.size ≤ (f j).1 := fun j hj => by
    have := (hf j hj).1.1.2
    rcases this with h1 | h1
    · exact h1
    · cases h1
  refine OkW.addF (h.add hfr hb hsz) (.all fun g2 hg2 => ?_) ?_
  · obtain ⟨j, hj, rfl⟩ := List.mem_map.1 hg2
    have hj := List.mem_range.1 hj
    exact ⟨⟨(hf j hj).1.1.1, .inl (Nat.le_trans h.fr.size (key j hj))⟩, (hf j hj).1.2⟩
  · rintro k ⟨g2, hg2, hk⟩ hm
    obtain ⟨j, hj, rfl⟩ := List.mem_map.1 hg2
    have hj := List.mem_range.1 hj
    obtain ⟨_, off, n1, c1, e⟩ := hk
    simp only [Value.slice.injEq, Option.some.injEq, Addr.mk.injEq] at e
    obtain ⟨⟨rfl, _⟩, _⟩ := e
    rw [List.map_append] at hm
    rcases List.mem_append.1 hm with hm | hm
    · have h1 := h.lt hm
      have h2 := key j hj
      omega
    · exact (hf j hj).2 (List.mem_singleton.1 hm)
theorem elb : ElemOf Tryd.prog 57 1 24 (.slice none 0 0) := elem_of (by kernel_rfl) rfl
theorem bs1s (a : Option Addr) (n c : Nat) (w : World) : (Instr.buildSlice 98 1 [(0, .slice a n c)].toArray).run Tryd.prog w = .ok (.slice (some ⟨w.heap.size, 0, none⟩) 1 1) (w.alloc (row 57 [.slice a n c])) := by kernel_rfl
theorem coll_fin {P : Program} {nt : Nat} {p : Dg} {c : Cm} {x : Pf} {w w' : World} {a b d : Fact} {N g cc : Nat} {r : List Value} {f : Nat → Nat × Nat} (h : OkW { P := P, w0 := w, nt := nt } [(g, row 57 (rgC p c x N f ++ r))] [a, b, d, byF w p c x N f] w') : CollR p c x w N (.returned (.slice (some ⟨g, 0, none⟩) N cc)) w' := by
  refine ⟨g, cc, r, f, rfl, h.fr, by simpa using h.may g (List.mem_singleton.2 rfl), h.at (i := 0) rfl, fun j hj => ?_⟩
  have hm : byF w p c x N f ∈ [a, b, d, byF w p c x N f] := by simp
  have h2 := h.facts _ hm
  have hr : rgY p c x w [] j (f j) ∈ (List.range N).map fun j => rgY p c x w [] j (f j) := List.mem_map.2 ⟨j, List.mem_range.2 hj, rfl⟩
  refine ⟨⟨h2.1 _ hr, fun k hk => (h2.2 k ⟨_, hr, hk⟩).1⟩, fun e => ?_⟩
  have hfp : (rgY p c x w [] j (f j)).fp (f j).1 := ⟨fun e => by have := (upP_len p c x j).2; rw [e] at this; exact absurd this (by decide), _, _, _, rfl⟩
  exact (h2.2 _ ⟨_, hr, hfp⟩).2 (List.mem_singleton.2 e)
theorem sz98pm : (Tryd.prog.info? 98).map (·.size) = some 1 := by kernel_rfl
theorem tx63pm : Txt Tryd.prog 63 := txt_of Tryd.func63 rfl (by kernel_rfl)
theorem tx64pm : Txt Tryd.prog 64 := txt_of Tryd.func64 rfl (by kernel_rfl)

theorem appSeq_w (p : Dg) (c : Cm) (x : Pf) (s : Sl) (b : Nat) (w : World) (hp : DB p) (hc : DB c.2) (hsb : ∀ f ∈ x.sib, DB f) (hx1 : DB x.path) (hx2 : DB x.val) (hB6 : x.sib.length ≤ 256) (f0 : FA w (blkF b (row 96 (sdM p c x s)))) (f1 : FA w (sbF x.sib s)) (hK : TabK KT 1 w) :
    Calls Tryd.prog 63 #[.slice none 0 0, .func (.func 64) #[] #[.pointer (some ⟨b, 0, none⟩)]] w fun e w' => CollR p c x w (x.sib.length + 1) e w' := by
  refine calls_of_m (args := [.slice none 0 0, .func (.func 64) #[] #[.pointer (some ⟨b, 0, none⟩)]]) ([]) ([]) ([blkF b (row 96 (sdM p c x s)), sbF x.sib s, tabF 1]) Tryd.func63 rfl rfl (okFW (.cons f0 (.cons f1 (.cons (tab_fa hK) .nil)))) ?_
  refine J_seq ?_
  refine J_region ?_
  refine L_box rfl rfl rfl rfl rfl (fun b0 => ?_)
  refine L_v rfl rfl rfl (V_assign rfl rfl) ?_
  refine L_nil ?_
  change J _ _ _ _
  refine J_seq ?_
  refine J_seq ?_
  refine J_region ?_
  refine L_v rfl rfl rfl (V_move rfl rfl) ?_
  refine L_nil ?_
  change J _ _ _ _
  refine J_block ?_
  refine J_rangeFuncT (Z := OwnR × (Nat → Nat × Nat)) (coM b0 p c x) (coG p c x w [blkF b (row 96 (sdM p c x s)), sbF x.sib s, tabF 1]) (none, fun _ => (0, 0)) (x.sib.length + 1) (rgV p c x) (rgY p c x w []) rfl rfl rfl tx64pm (fun _ _ => rfl) (by intro q hq; obtain rfl := List.mem_singleton.1 hq; rfl) (fun w1 hw => hw.addP ⟨rfl, rfl⟩) ?_ ?_ ?_
  · intro D2 l2 r2 w9 hR9 hw9
    exact rg_it { P := Tryd.prog, w0 := w, nt := Tryd.f63.ntmps } (coM b0 p c x) (coG p c x w [blkF b (row 96 (sdM p c x s)), sbF x.sib s, tabF 1]) (none, fun _ => (0, 0)) D2 l2 r2 b p c x s w9 hp hc hsb hx1 hx2 hB6 (fun w0 mods k z w1 h9 => ⟨(h9.2.2.2 _ (List.mem_cons_of_mem _ List.mem_cons_self)).1, (h9.2.2.2 _ (List.mem_cons_of_mem _ (List.mem_cons_of_mem _ List.mem_cons_self))).1, (h9.2.2.2 _ (List.mem_cons_of_mem _ (List.mem_cons_of_mem _ (List.mem_cons_of_mem _ List.mem_cons_self)))).1⟩) hR9 hw9
  · rintro w1 md D2 l2 r2 k ⟨q, f⟩ y hk hsup
    refine J_region ?_
    refine L_v rfl rfl rfl (V_assign rfl rfl) ?_
    refine L_nil ?_
    refine ⟨[], coG p c x w [blkF b (row 96 (sdM p c x s)), sbF x.sib s, tabF 1] k (q, f) ++ [rgY p c x w [] k y], rfl, fun w2 hw => (by rw [List.append_nil]; exact hw), ?_⟩
    refine J_pureF (p := OwnC 1 q k (rgC p c x k f)) (List.mem_append_left _ List.mem_cons_self) (fun hq => ?_)
    refine J_conv ([(b0, row 98 [ownV q k])] ++ (ownM 57 q (rgC p c x k f) ++ tl D2 l2 { r2 with state := .busy })) (coG p c x w [blkF b (row 96 (sdM p c x s)), sbF x.sib s, tabF 1] k (q, f) ++ [rgY p c x w [] k y]) (fun w2 hw => by rw [List.append_nil] at hw; exact hw) ?_
    refine J_block ?_
    refine J_region ?_
    refine L_v rfl rfl rfl (V_load1 0 rfl rfl rfl Tryd.underlying98 rfl (by rfl)) ?_
    refine L_v rfl rfl rfl (V_move rfl rfl) ?_
    refine L_buildSlice (vs := [(0, SLk p c x k y)]) (l := [SLk p c x k y]) rfl rfl rfl rfl rfl (bs1s _ _ _) (fun b5 => ?_)
    refine L_appN [(b0, row 98 [ownV q k])] (tl D2 l2 { r2 with state := .busy } ++ [(b5, row 57 [SLk p c x k y])]) q (rgC p c x k f) (m := 1) (n' := k + 1) (ks' := rgC p c x (k + 1) (upd f k y)) rfl rfl rfl rfl rfl Tryd.underlying98 elb (by show ([_] ++ (_ ++ _)) ++ _ = _; simp only [List.append_assoc]) hq (fun w1 hw => SlC.src Tryd.underlying98 (SlC.in hw (ks := [SLk p c x k y]) (r := []) (fz := (0, 0)) (List.mem_append_right _ (List.mem_singleton.2 rfl)) rfl 1) (by intro u hu; obtain rfl := List.mem_singleton.1 hu; rfl)) rfl (map_upd (SLk p c x) k f y).symm (by omega) (by omega) (fun q' hq' => ?_)
    refine L_store1 0 rfl rfl rfl rfl rfl rfl rfl sz98pm (Nat.le_of_ble_eq_true (by kernel_rfl)) rfl ?_
    refine L_nil ?_
    exact ⟨(q', upd f k y), co_gs _, fun w2 hw => co_next (hw.pk (Pk.of_sub (by
      show List.Sublist (((b0, row 98 [ownV q' (k + 1)]) :: ownM 57 q' (rgC p c x (k + 1) (upd f k y))) ++ tl D2 l2 { r2 with state := .busy }) ((b0, row 98 [ownV q' (k + 1)]) :: (ownM 57 q' (rgC p c x (k + 1) (upd f k y)) ++ (tl D2 l2 { r2 with state := .busy } ++ [(b5, row 57 [SLk p c x k y])])))
      rw [List.cons_append, ← List.append_assoc]
      exact List.Sublist.cons_cons _ (List.sublist_append_left _ _))) (fun f hf => hf)) hq'⟩
  · rintro D2 ⟨q, f⟩
    change J _ _ _ _
    refine J_conv ([(b0, row 98 [ownV q (x.sib.length + 1)]), (D2, .deferred (some []))] ++ ownM 57 q (rgC p c x (x.sib.length + 1) f)) (coG p c x w [blkF b (row 96 (sdM p c x s)), sbF x.sib s, tabF 1] (x.sib.length + 1) (q, f)) (fun w2 hw => hw.pk (Pk.of_perm (l := (b0, row 98 [ownV q (x.sib.length + 1)]) :: (ownM 57 q (rgC p c x (x.sib.length + 1) f) ++ [(D2, .deferred (some []))])) (List.Perm.cons _ List.perm_append_comm) (List.Sublist.refl _)) (fun f hf => hf)) ?_
    change J _ _ _ _
    refine J_seq ?_
    refine J_region ?_
    refine L_v rfl rfl rfl (V_load1 0 rfl rfl rfl Tryd.underlying98 rfl (by rfl)) ?_
    refine L_v rfl rfl rfl (V_assign rfl rfl) ?_
    refine L_nil ?_
    change J _ _ _ _
    refine J_ret ?_
    change KretM _ _ _ Exit.ret _
    refine KretM_mark 1 rfl rfl ?_
    refine ret1 rfl rfl (RV_t rfl) ?_
    exact fun w' h => coll_end (A := [_, _]) h (Nat.succ_pos _)

theorem collect_w (p : Dg) (c : Cm) (x : Pf) (s : Sl) (b : Nat) (w : World) (hp : DB p) (hc : DB c.2) (hsb : ∀ f ∈ x.sib, DB f) (hx1 : DB x.path) (hx2 : DB x.val) (hB6 : x.sib.length ≤ 256) (f0 : FA w (blkF b (row 96 (sdM p c x s)))) (f1 : FA w (sbF x.sib s)) (hK : TabK KT 1 w) :
    Calls Tryd.prog 31 #[.func (.func 64) #[] #[.pointer (some ⟨b, 0, none⟩)]] w fun e w' => CollR p c x w (x.sib.length + 1) e w' := by
  refine calls_of (args := [.func (.func 64) #[] #[.pointer (some ⟨b, 0, none⟩)]]) ([]) ([]) ([blkF b (row 96 (sdM p c x s)), sbF x.sib s, tabF 1]) Tryd.func31 rfl rfl (okFW (.cons f0 (.cons f1 (.cons (tab_fa hK) .nil)))) ?_
  refine J_seq ?_
  refine J_region ?_
  refine L_v rfl rfl rfl (V_assign rfl rfl) ?_
  refine L_nil ?_
  change J _ _ _ _
  refine J_seq ?_
  refine J_region ?_
  refine L_v rfl rfl rfl (V_move rfl rfl) ?_
  refine L_call rfl rfl rfl rfl tx63pm (fun w1 hw => (appSeq_w p c x s b w1 hp hc hsb hx1 hx2 hB6 (hw.fa 0 rfl) (hw.fa 1 rfl) (hw.fa 2 rfl).1).mono ?_)
  rintro e w' ⟨g, cc, rr, f, rfl, hfr, hsz, hb, hf⟩
  refine ⟨_, _, _, rfl, coll_ok hw hfr hsz hb hf, rfl, ?_⟩
  refine L_v rfl rfl rfl (V_assign rfl rfl) ?_
  refine L_nil ?_
  change J _ _ _ _
  refine J_ret ?_
  change Kret _ _ _ Exit.ret _
  refine ret1 rfl rfl (RV_t rfl) ?_
  exact fun w' h => coll_fin h

end Go.Proofs.YtfdmjjhgdbpfeaaDoor

/- Rows are turned round; two texts are held against one another. -/
set_option linter.unusedVariables false
set_option linter.unusedSimpArgs false
set_option maxRecDepth 100000
namespace Go.Proofs.YtfdmjjhgdbpfeaaDoor
open Go.Sx
theorem app_get {l r : List Value} {i : Nat} {v : Value} (h : l[i]? = some v) : (l ++ r)[i]? = some v := by
  rw [List.getElem?_append_left (List.getElem?_eq_some_iff.1 h).1]
  exact h
def RV (ks l : List Value) (i : Nat) : Prop := ∀ t, t < ks.length → l[t]? = if t < i ∨ ks.length - 1 - t < i then ks[ks.length - 1 - t]? else ks[t]?
theorem rv_next {ks l : List Value} {i : Nat} {vi vj : Value} (h : RV ks l i) (hl : l.length = ks.length) (hij : i < ks.length - 1 - i) (hi : l[i]? = some vi) (hj : l[ks.length - 1 - i]? = some vj) : RV ks ((l.set i vj).set (ks.length - 1 - i) vi) (i + 1) := by
  intro t ht
  have h1 := h i (by omega)
  have h2 := h (ks.length - 1 - i) (by omega)
  rw [if_neg (by omega), hi] at h1
  rw [if_neg (by omega), hj] at h2
  by_cases e : t = ks.length - 1 - i
  · subst e
    rw [List.getElem?_set_self (by rw [List.length_set]; omega), if_pos (.inr (by omega)), show ks.length - 1 - (ks.length - 1 - i) = i by omega]
    exact h1
  · rw [List.getElem?_set_ne (fun hh => e hh.symm)]
    by_cases e2 : t = i
    · subst e2
      rw [List.getElem?_set_self (by omega), if_pos (.inl (by omega))]
      exact h2
    · rw [List.getElem?_set_ne (fun hh => e2 hh.symm), h t ht]
      by_cases c1 : t < i ∨ ks.length - 1 - t < i
      · rw [if_pos c1, if_pos (by omega)]
      · rw [if_neg c1, if_neg (by omega)]
theorem rv_next2 {ks l : List Value} {i : Nat} {vi vj : Value} (h : RV ks l i) (hl : l.length = ks.length) (hij : i < ks.length - 1 - i) (hi : l[i]? = some vi) (hj : l[ks.length - 1 - i]? = some vj) : RV ks ((l.set (ks.length - 1 - i) vi).set i vj) (i + 1) := by
  rw [List.set_comm _ _ (by omega)]
  exact rv_next h hl hij hi hj
theorem rv_end {ks l : List Value} {i : Nat} (h : RV ks l i) (hl : l.length = ks.length) (hi : ¬ ((i : Int) < (ks.length : Int) - 1 - (i : Int))) : l = ks.reverse := by
  apply List.ext_getElem?
  intro t
  by_cases ht : t < ks.length
  · rw [h t ht, List.getElem?_reverse ht]
    by_cases c : t < i ∨ ks.length - 1 - t < i
    · rw [if_pos c]
    · rw [if_neg c, show ks.length - 1 - t = t by omega]
  · rw [List.getElem?_eq_none (by omega), List.getElem?_eq_none (by rw [List.length_reverse]; omega)]
theorem sz5pn : (Tryd.prog.info? 5).map (·.size) = some 1 := by kernel_rfl
theorem sz57pn : (Tryd.prog.info? 57).map (·.size) = some 1 := by kernel_rfl

set_option maxHeartbeats 1000000 in
theorem reverse_w (g n c : Nat) (ks r : List Value) (w : World) (hb : w.heap[g]? = some (row 57 (ks ++ r))) (hl : ks.length = n) (hn : n ≤ 1000) (h1c : ∀ v ∈ ks, v.oneCell' = true) :
    Calls Tryd.prog 33 #[.slice (some ⟨g, 0, none⟩) n c] w fun e w' => e = .returned (.tuple #[]) ∧ Fr [g] w w' ∧ w'.heap[g]? = some (row 57 (ks.reverse ++ r)) := by
  refine calls_of (args := [.slice (some ⟨g, 0, none⟩) n c]) ([g]) ([(g, row 57 (ks ++ r))]) ([]) Tryd.func33 rfl rfl (okM1 hb (fun f hf => by cases hf)) ?_
  refine J_seq ?_
  refine J_region ?_
  refine L_v rfl rfl rfl (V_move rfl rfl) ?_
  refine L_v rfl rfl rfl (V_len rfl rfl Tryd.underlying98 rfl) ?_
  refine L_v rfl rfl rfl (V_sub rfl rfl rfl (by first | exact Go.IntWalk.i64_in _ (by omega) | rfl)) ?_
  refine L_v rfl rfl rfl (V_assign rfl rfl) ?_
  refine L_v rfl rfl rfl (V_assign rfl rfl) ?_
  refine L_nil ?_
  change J _ _ _ _
  refine J_block ?_
  refine J_loop (X := Nat × List Value) (fun y => { env := [(0, .slice (some ⟨g, 0, none⟩) n c), (2, .int .i64 (y.1 : Int)), (3, .int .i64 ((n : Int) - 1 - (y.1 : Int)))], mem := [(g, row 57 (y.2 ++ r))] }) (fun y => y.1 ≤ n ∧ y.2.length = ks.length ∧ RV ks y.2 y.1) (fun y => n - y.1) (0, ks) ⟨Nat.zero_le _, rfl, fun t ht => (if_neg (by omega)).symm⟩ ⟨⟨rfl, rfl, (by show _ = some (Value.int .i64 _); rw [show ((n : Int) - 1 - ((0 : Nat) : Int)) = (n : Int) - 1 by omega]; rfl), trivial⟩, List.Sublist.refl _, fun f hf => hf, rfl⟩ ?_
  rintro ⟨i, l⟩ ⟨hi, hll, hrv⟩
  simp only at hi hll hrv ⊢
  refine J_seq ?_
  refine J_seq ?_
  refine J_region ?_
  refine L_v rfl rfl rfl (V_move rfl rfl) ?_
  refine L_v rfl rfl rfl (V_move rfl rfl) ?_
  refine L_v rfl rfl rfl (V_lss rfl rfl rfl (by first | exact decide_eq_true (by omega) | exact decide_eq_false (by omega) | rfl)) ?_
  refine L_nil ?_
  change J _ _ _ _
  refine J_cond rfl (fun h1 => ?_) (fun h1 => ?_)
  ·
    first | (have h1 := of_decide_eq_true h1) | (have h1 := of_decide_eq_false h1) | skip
    obtain ⟨vj, hvj⟩ : ∃ v, l[n - 1 - i]? = some v := ⟨_, List.getElem?_eq_getElem (by omega)⟩
    obtain ⟨vi, hvi⟩ : ∃ v, l[i]? = some v := ⟨_, List.getElem?_eq_getElem (by omega)⟩
    have hoi : vi.oneCell' = true := by have h9 := hrv i (by omega); rw [if_neg (by omega), hvi] at h9; exact h1c _ (List.mem_of_getElem? h9.symm)
    have hoj : vj.oneCell' = true := by have h9 := hrv (n - 1 - i) (by omega); rw [if_neg (by omega), hvj] at h9; exact h1c _ (List.mem_of_getElem? h9.symm)
    refine J_skip ?_
    change J _ _ _ _
    refine J_seq ?_
    refine J_block ?_
    refine J_regionO (.pure 0 (.pure 1 (.pure 2 (.pure 3 (.pure 4 (.pure 5 (.pure 6 (.pure 8 (.pure 9 (.pure 10 (.two 7 (.one 11 (.pure 12 (.one 13 (.pure 14 (.one 15 (.nil)))))) 11 (.one 7 (.pure 12 (.one 13 (.pure 14 (.one 15 (.nil))))))))))))))))) ([]) [] (Pk.of_sub (List.nil_sublist _)) (fun f hf => by cases hf) rfl rfl (by kernel_rfl) ?_
    refine LO_v rfl rfl rfl rfl (V_move rfl rfl) ?_
    refine LO_v rfl rfl rfl rfl (V_move rfl rfl) ?_
    refine LO_v rfl rfl rfl rfl (V_move rfl rfl) ?_
    refine LO_v rfl rfl rfl rfl (V_move rfl rfl) ?_
    refine LO_v rfl rfl rfl rfl (V_move rfl rfl) ?_
    refine LO_v rfl rfl rfl rfl (V_move rfl rfl) ?_
    refine LO_v rfl rfl rfl rfl (V_indexSl (off' := n - 1 - i) rfl rfl rfl Tryd.underlying98 sz57pn (by omega) (by omega) (by show 0 + ((n : Int) - 1 - (i : Int)).toNat * 1 = n - 1 - i; omega)) ?_
    refine LO_v rfl rfl rfl rfl (V_move rfl rfl) ?_
    refine LO_v rfl rfl rfl rfl (V_move rfl rfl) ?_
    refine LO_v rfl rfl rfl rfl (V_indexSl (off' := i) rfl rfl rfl Tryd.underlying98 sz57pn (by omega) (by omega) (by show 0 + ((i : Nat) : Int).toNat * 1 = i; omega)) ?_
    refine LO_both ?_ ?_
    ·
      refine LO_q rfl rfl rfl rfl rfl (V_load1 0 (v := vj) rfl rfl rfl Tryd.underlying57 rfl (app_get hvj)) (Pk.of_sub (List.nil_sublist _)) (fun f hf => by cases hf) ?_
      refine LO_q rfl rfl rfl rfl rfl (V_load1 0 (v := vi) rfl rfl rfl Tryd.underlying57 rfl (app_get hvi)) (Pk.of_sub (List.nil_sublist _)) (fun f hf => by cases hf) ?_
      refine LO_v rfl rfl rfl rfl (V_indexSl (off' := i) rfl rfl rfl Tryd.underlying98 sz57pn (by omega) (by omega) (by show 0 + ((i : Nat) : Int).toNat * 1 = i; omega)) ?_
      refine LO_s rfl rfl rfl (S_store1 0 (l' := (l.set i vj) ++ r) rfl rfl rfl rfl rfl hoj sz57pn (by simp only [List.length_append, List.length_set]; omega) (List.set_append_left _ _ (by first | omega | (simp only [List.length_set]; omega))) ⟨Pk.of_sub (List.nil_sublist _), (fun f hf => by cases hf), ?_⟩)
      refine LO_v rfl rfl rfl rfl (V_indexSl (off' := n - 1 - i) rfl rfl rfl Tryd.underlying98 sz57pn (by omega) (by omega) (by show 0 + ((n : Int) - 1 - (i : Int)).toNat * 1 = n - 1 - i; omega)) ?_
      refine LO_s rfl rfl rfl (S_store1 0 (l' := ((l.set i vj).set (n - 1 - i) vi) ++ r) rfl rfl rfl rfl rfl hoi sz57pn (by simp only [List.length_append, List.length_set]; omega) (List.set_append_left _ _ (by first | omega | (simp only [List.length_set]; omega))) ⟨Pk.of_sub (List.nil_sublist _), (fun f hf => by cases hf), ?_⟩)
      refine LO_nil ?_
      change J _ _ _ _
      refine J_region ?_
      refine L_v rfl rfl rfl (V_move rfl rfl) ?_
      refine L_v rfl rfl rfl (V_add rfl rfl rfl (by first | exact Go.IntWalk.i64_in _ (by omega) | rfl)) ?_
      refine L_v rfl rfl rfl (V_move rfl rfl) ?_
      refine L_v rfl rfl rfl (V_sub (r := (n : Int) - 1 - ((i + 1 : Nat) : Int)) rfl rfl rfl (by rw [Go.IntWalk.i64_in _ (by omega)]; omega)) ?_
      refine L_v rfl rfl rfl (V_assign rfl rfl) ?_
      refine L_v rfl rfl rfl (V_assign rfl rfl) ?_
      refine L_nil ?_
      exact ⟨(i + 1, _), ⟨by show i + 1 ≤ n; omega, by show (List.set (List.set _ _ _) _ _).length = _; rw [List.length_set, List.length_set]; exact hll, (by first | exact rv_next hrv hll (by omega) hvi (by rw [hl]; exact hvj) | (subst hl; exact rv_next hrv hll (by omega) hvi hvj) | (subst hl; exact rv_next2 hrv hll (by omega) hvi hvj))⟩, by show n - (i + 1) < n - i; omega, ⟨rfl, rfl, rfl, trivial⟩, List.Sublist.refl _, fun f hf => hf, rfl⟩
    ·
      refine LO_q rfl rfl rfl rfl rfl (V_load1 0 (v := vi) rfl rfl rfl Tryd.underlying57 rfl (app_get hvi)) (Pk.of_sub (List.nil_sublist _)) (fun f hf => by cases hf) ?_
      refine LO_q rfl rfl rfl rfl rfl (V_load1 0 (v := vj) rfl rfl rfl Tryd.underlying57 rfl (app_get hvj)) (Pk.of_sub (List.nil_sublist _)) (fun f hf => by cases hf) ?_
      refine LO_v rfl rfl rfl rfl (V_indexSl (off' := i) rfl rfl rfl Tryd.underlying98 sz57pn (by omega) (by omega) (by show 0 + ((i : Nat) : Int).toNat * 1 = i; omega)) ?_
      refine LO_s rfl rfl rfl (S_store1 0 (l' := (l.set i vj) ++ r) rfl rfl rfl rfl rfl hoj sz57pn (by simp only [List.length_append, List.length_set]; omega) (List.set_append_left _ _ (by first | omega | (simp only [List.length_set]; omega))) ⟨Pk.of_sub (List.nil_sublist _), (fun f hf => by cases hf), ?_⟩)
      refine LO_v rfl rfl rfl rfl (V_indexSl (off' := n - 1 - i) rfl rfl rfl Tryd.underlying98 sz57pn (by omega) (by omega) (by show 0 + ((n : Int) - 1 - (i : Int)).toNat * 1 = n - 1 - i; omega)) ?_
      refine LO_s rfl rfl rfl (S_store1 0 (l' := ((l.set i vj).set (n - 1 - i) vi) ++ r) rfl rfl rfl rfl rfl hoi sz57pn (by simp only [List.length_append, List.length_set]; omega) (List.set_append_left _ _ (by first | omega | (simp only [List.length_set]; omega))) ⟨Pk.of_sub (List.nil_sublist _), (fun f hf => by cases hf), ?_⟩)
      refine LO_nil ?_
      change J _ _ _ _
      refine J_region ?_
      refine L_v rfl rfl rfl (V_move rfl rfl) ?_
      refine L_v rfl rfl rfl (V_add rfl rfl rfl (by first | exact Go.IntWalk.i64_in _ (by omega) | rfl)) ?_
      refine L_v rfl rfl rfl (V_move rfl rfl) ?_
      refine L_v rfl rfl rfl (V_sub (r := (n : Int) - 1 - ((i + 1 : Nat) : Int)) rfl rfl rfl (by rw [Go.IntWalk.i64_in _ (by omega)]; omega)) ?_
      refine L_v rfl rfl rfl (V_assign rfl rfl) ?_
      refine L_v rfl rfl rfl (V_assign rfl rfl) ?_
      refine L_nil ?_
      exact ⟨(i + 1, _), ⟨by show i + 1 ≤ n; omega, by show (List.set (List.set _ _ _) _ _).length = _; rw [List.length_set, List.length_set]; exact hll, (by first | exact rv_next hrv hll (by omega) hvi (by rw [hl]; exact hvj) | (subst hl; exact rv_next hrv hll (by omega) hvi hvj) | (subst hl; exact rv_next2 hrv hll (by omega) hvi hvj))⟩, by show n - (i + 1) < n - i; omega, ⟨rfl, rfl, rfl, trivial⟩, List.Sublist.refl _, fun f hf => hf, rfl⟩
  ·
    first | (have h1 := of_decide_eq_true h1) | (have h1 := of_decide_eq_false h1) | skip
    refine J_exit ?_
    change Kret _ _ _ Exit.normal _
    refine Kret_normal ?_
    refine ret0 rfl rfl  ?_
    exact fun w' h => ⟨rfl, h.fr, by have h9 := h.at (i := 0) rfl; rw [rv_end hrv hll (by omega)] at h9; exact h9⟩

theorem equalB_w (a1 : Option Addr) (n1 c1 : Nat) (a2 : Option Addr) (n2 c2 : Nat) (L1 L2 : List Int) (w : World) (hu1 : SlB w (.slice a1 n1 c1) L1) (hu2 : SlB w (.slice a2 n2 c2) L2) (hB : n1 ≤ 1000) :
    Calls Tryd.prog 34 #[.slice a1 n1 c1, .slice a2 n2 c2] w fun e w' => e = .returned (.bool (decide (L1 = L2))) ∧ Fr [] w w' := by
  have hz1 := hu1.size
  have hz2 := hu2.size
  refine calls_of (args := [.slice a1 n1 c1, .slice a2 n2 c2]) ([]) ([]) ([]) Tryd.func34 rfl rfl (okW0 _ _ _ _) ?_
  refine J_seq ?_
  refine J_region ?_
  refine L_v rfl rfl rfl (V_assign rfl rfl) ?_
  refine L_nil ?_
  change J _ _ _ _
  refine J_seq ?_
  refine J_seq ?_
  refine J_region ?_
  refine L_v rfl rfl rfl (V_move rfl rfl) ?_
  refine L_v rfl rfl rfl (V_len rfl rfl Tryd.underlying57 rfl) ?_
  refine L_v rfl rfl rfl (V_move rfl rfl) ?_
  refine L_v rfl rfl rfl (V_len rfl rfl Tryd.underlying57 rfl) ?_
  refine L_v rfl rfl rfl (V_neq rfl rfl rfl (by first | exact decide_eq_true (by omega) | exact decide_eq_false (by omega) | rfl)) ?_
  refine L_nil ?_
  change J _ _ _ _
  refine J_cond rfl (fun h1 => ?_) (fun h1 => ?_)
  ·
    first | (have h1 := of_decide_eq_true h1) | (have h1 := of_decide_eq_false h1) | skip
    refine J_seq ?_
    refine J_region ?_
    refine L_v rfl rfl rfl (V_assign rfl rfl) ?_
    refine L_nil ?_
    change J _ _ _ _
    refine J_ret ?_
    change Kret _ _ _ Exit.ret _
    refine ret1 rfl rfl (RV_t rfl) ?_
    exact fun w' h => ⟨by rw [decide_eq_false (fun e => h1 (by rw [← hz1, ← hz2, e]))], h.fr⟩
  ·
    first | (have h1 := of_decide_eq_true h1) | (have h1 := of_decide_eq_false h1) | skip
    refine J_skip ?_
    change J _ _ _ _
    refine J_seq ?_
    refine J_seq ?_
    refine J_region ?_
    refine L_v rfl rfl rfl (V_move rfl rfl) ?_
    refine L_v rfl rfl rfl (V_len rfl rfl Tryd.underlying57 rfl) ?_
    refine L_v rfl rfl rfl (V_move rfl rfl) ?_
    refine L_nil ?_
    change J _ _ _ _
    refine J_block ?_
    refine J_loop (X := Nat) (fun i => { env := [(0, .slice a1 n1 c1), (1, .slice a2 n2 c2), (12, .int .i64 (n1 : Int)), (13, .int .i64 (i : Int))], mem := [] }) (fun i => i ≤ n1 ∧ L1.take i = L2.take i) (fun i => n1 - i) 0 ⟨Nat.zero_le _, rfl⟩ ⟨⟨rfl, rfl, rfl, rfl, trivial⟩, List.Sublist.refl _, fun f hf => hf, rfl⟩ ?_
    rintro i ⟨hi, ht⟩
    refine J_seq ?_
    refine J_region ?_
    refine L_v rfl rfl rfl (V_lss rfl rfl rfl (by first | exact decide_eq_true (by omega) | exact decide_eq_false (by omega) | rfl)) ?_
    refine L_nil ?_
    change J _ _ _ _
    refine J_seq ?_
    refine J_cond rfl (fun h2 => ?_) (fun h2 => ?_)
    ·
      first | (have h2 := of_decide_eq_true h2) | (have h2 := of_decide_eq_false h2) | skip
      refine J_skip ?_
      change J _ _ _ _
      refine J_seq ?_
      refine J_block ?_
      refine J_seq ?_
      refine J_region ?_
      refine L_v rfl rfl rfl (V_move rfl rfl) ?_
      refine L_v rfl rfl rfl (V_assign rfl rfl) ?_
      refine L_nil ?_
      change J _ _ _ _
      refine J_seq ?_
      refine J_regionQ rfl (by kernel_rfl) ?_
      refine LQ_v rfl rfl rfl (V_move rfl rfl) ?_
      refine LQ_v rfl rfl rfl (V_move rfl rfl) ?_
      refine LQ_v rfl rfl rfl (V_indexB rfl rfl rfl Tryd.underlying57 sz5pn (fun w hw => SlB.later hw rfl hu1) (by omega) (by omega)) ?_
      refine LQ_v rfl rfl rfl (V_loadB rfl rfl Tryd.underlying5 rfl (fun w hw => SlB.later hw rfl hu1) (by omega) rfl) ?_
      refine LQ_v rfl rfl rfl (V_move rfl rfl) ?_
      refine LQ_v rfl rfl rfl (V_move rfl rfl) ?_
      refine LQ_v rfl rfl rfl (V_indexB rfl rfl rfl Tryd.underlying57 sz5pn (fun w hw => SlB.later hw rfl hu2) (by omega) (by omega)) ?_
      refine LQ_v rfl rfl rfl (V_loadB rfl rfl Tryd.underlying5 rfl (fun w hw => SlB.later hw rfl hu2) (by omega) rfl) ?_
      refine LQ_v rfl rfl rfl (V_neq rfl rfl rfl (by first | exact decide_eq_true (by omega) | exact decide_eq_false (by omega) | rfl)) ?_
      refine LQ_nil ?_
      change J _ _ _ _
      refine J_cond rfl (fun h3 => ?_) (fun h3 => ?_)
      ·
        first | (have h3 := of_decide_eq_true h3) | (have h3 := of_decide_eq_false h3) | skip
        refine J_seq ?_
        refine J_region ?_
        refine L_v rfl rfl rfl (V_assign rfl rfl) ?_
        refine L_nil ?_
        change J _ _ _ _
        refine J_ret ?_
        change Kret _ _ _ Exit.ret _
        refine ret1 rfl rfl (RV_t rfl) ?_
        exact fun w' h => ⟨by rw [decide_eq_false (eqs_ne 0 h3)], h.fr⟩
      ·
        first | (have h3 := of_decide_eq_true h3) | (have h3 := of_decide_eq_false h3) | skip
        refine J_skip ?_
        change J _ _ _ _
        refine J_region ?_
        refine L_v rfl rfl rfl (V_add rfl rfl rfl (by first | exact Go.IntWalk.i64_in _ (by omega) | rfl)) ?_
        refine L_v rfl rfl rfl (V_move rfl rfl) ?_
        refine L_nil ?_
        exact ⟨i + 1, ⟨by omega, eqs_step 0 (by omega) (by omega) ht (Classical.not_not.1 h3)⟩, by show n1 - (i + 1) < n1 - i; omega, ⟨rfl, rfl, rfl, rfl, trivial⟩, List.Sublist.refl _, fun f hf => hf, rfl⟩
    ·
      first | (have h2 := of_decide_eq_true h2) | (have h2 := of_decide_eq_false h2) | skip
      refine J_exit ?_
      change J _ _ _ _
      refine J_seq ?_
      refine J_region ?_
      refine L_v rfl rfl rfl (V_assign rfl rfl) ?_
      refine L_nil ?_
      change J _ _ _ _
      refine J_ret ?_
      change Kret _ _ _ Exit.ret _
      refine ret1 rfl rfl (RV_t rfl) ?_
      exact fun w' h => ⟨by rw [decide_eq_true (eqs_all (by omega) (by omega) ht)], h.fr⟩

end Go.Proofs.YtfdmjjhgdbpfeaaDoor

/- Two proofs' clash. -/
set_option linter.unusedVariables false
set_option linter.unusedSimpArgs false
set_option maxRecDepth 100000
namespace Go.Proofs.YtfdmjjhgdbpfeaaDoor
open Go.Sx
theorem pchk_e {root p : Dg} {c : Cm} {x : Pf} {k : Int} (he : pchk root p c x = k) (s : Sl) (w : World) (hp : DB p) (hc : DB c.2) (hsb : ∀ f ∈ x.sib, DB f) (hx1 : DB x.path) (hx2 : DB x.val) (f1 : FA w (sbF x.sib s)) (hB : x.sib.length ≤ 1099511627776) (hK : TabK KT 1 w) : Calls Tryd.prog 30 #[.agg (sdM p c x s).toArray, .agg (dgM root).toArray] w fun e w' => e = .returned (.int .i64 k) ∧ Fr [] w w' := he ▸ pchk_w p c x s root w hp hc hsb hx1 hx2 f1 hB hK
theorem pchk_0 {root p : Dg} {c : Cm} {x : Pf} (h : pchk root p c x = 0) : mayPf p c x ∧ topD p c x = root := by
  unfold pchk at h
  split at h
  · rename_i h1
    split at h
    · rename_i h2
      exact ⟨h1, h2⟩
    · exact absurd h (by decide)
  · exact absurd h (by decide)
theorem rgC_one (p : Dg) (c : Cm) (x : Pf) (N : Nat) (f : Nat → Nat × Nat) : ∀ v ∈ rgC p c x N f, v.oneCell' = true := fun v hv => by
  obtain ⟨j, _, rfl⟩ := List.mem_map.1 hv
  rfl
theorem rgR_get {p : Dg} {c : Cm} {x : Pf} {f : Nat → Nat × Nat} {i : Nat} {r : List Value} (h : i < x.sib.length + 1) : ((rgC p c x (x.sib.length + 1) f).reverse ++ r)[i]? = some (SLk p c x (x.sib.length - i) (f (x.sib.length - i))) := by
  rw [List.getElem?_append_left (by rw [List.length_reverse, rgC_len]; exact h), List.getElem?_reverse (by rw [rgC_len]; exact h), rgC_len, show x.sib.length + 1 - 1 - i = x.sib.length - i by omega]
  unfold rgC
  rw [List.getElem?_map, List.getElem?_range (by omega)]
  rfl
theorem byF_get {w w0 : World} {p : Dg} {c : Cm} {x : Pf} {N : Nat} {f : Nat → Nat × Nat} (h : FA w (byF w0 p c x N f)) {j : Nat} (hj : j < N) : FA w (rgY p c x w0 [] j (f j)) := h.of (List.mem_map.2 ⟨j, List.mem_range.2 hj, rfl⟩)
def ClashR (p : Dg) (c : Cm) (x : Pf) (d : Cm) (y : Pf) (w : World) (e : Ending) (w' : World) : Prop :=
  ∃ (j : Nat) (a b : Nat × Nat), e = .returned (.tuple #[SLk p c x (x.sib.length - j) a, SLk p d y (y.sib.length - j) b, .int .i64 0]) ∧ Fr [] w w' ∧ (dnP p c x j ≠ dnP p d y j ∧ shD (dnP p c x j) = shD (dnP p d y j)) ∧ FA w' (rgY p c x w [] (x.sib.length - j) a) ∧ FA w' (rgY p d y w [] (y.sib.length - j) b)
theorem sz26pp : (Tryd.prog.info? 26).map (·.size) = some 32 := by kernel_rfl
theorem sz28pp : (Tryd.prog.info? 28).map (·.size) = some 66 := by kernel_rfl
theorem sz54pp : (Tryd.prog.info? 54).map (·.size) = some 33 := by kernel_rfl
theorem sz57pp : (Tryd.prog.info? 57).map (·.size) = some 1 := by kernel_rfl
theorem sz96pp : (Tryd.prog.info? 96).map (·.size) = some 132 := by kernel_rfl
theorem tx30pp : Txt Tryd.prog 30 := txt_of Tryd.func30 rfl (by kernel_rfl)
theorem tx31pp : Txt Tryd.prog 31 := txt_of Tryd.func31 rfl (by kernel_rfl)
theorem tx32pp : Txt Tryd.prog 32 := txt_of Tryd.func32 rfl (by kernel_rfl)
theorem tx33pp : Txt Tryd.prog 33 := txt_of Tryd.func33 rfl (by kernel_rfl)
theorem tx34pp : Txt Tryd.prog 34 := txt_of Tryd.func34 rfl (by kernel_rfl)
theorem z96pp : (Tryd.prog.info? 96).bind (·.zero) = some (.agg [.int .i64 0, .int .u8 0, .int .u8 0, .int .u8 0, .int .u8 0, .int .u8 0, .int .u8 0, .int .u8 0, .int .u8 0, .int .u8 0, .int .u8 0, .int .u8 0, .int .u8 0, .int .u8 0, .int .u8 0, .int .u8 0, .int .u8 0, .int .u8 0, .int .u8 0, .int .u8 0, .int .u8 0, .int .u8 0, .int .u8 0, .int .u8 0, .int .u8 0, .int .u8 0, .int .u8 0, .int .u8 0, .int .u8 0, .int .u8 0, .int .u8 0, .int .u8 0, .int .u8 0, .bool false, .int .u8 0, .int .u8 0, .int .u8 0, .int .u8 0, .int .u8 0, .int .u8 0, .int .u8 0, .int .u8 0, .int .u8 0, .int .u8 0, .int .u8 0, .int .u8 0, .int .u8 0, .int .u8 0, .int .u8 0, .int .u8 0, .int .u8 0, .int .u8 0, .int .u8 0, .int .u8 0, .int .u8 0, .int .u8 0, .int .u8 0, .int .u8 0, .int .u8 0, .int .u8 0, .int .u8 0, .int .u8 0, .int .u8 0, .int .u8 0, .int .u8 0, .int .u8 0, .slice none 0 0, .bool false, .int .u8 0, .int .u8 0, .int .u8 0, .int .u8 0, .int .u8 0, .int .u8 0, .int .u8 0, .int .u8 0, .int .u8 0, .int .u8 0, .int .u8 0, .int .u8 0, .int .u8 0, .int .u8 0, .int .u8 0, .int .u8 0, .int .u8 0, .int .u8 0, .int .u8 0, .int .u8 0, .int .u8 0, .int .u8 0, .int .u8 0, .int .u8 0, .int .u8 0, .int .u8 0, .int .u8 0, .int .u8 0, .int .u8 0, .int .u8 0, .int .u8 0, .int .u8 0, .int .u8 0, .int .u8 0, .int .u8 0, .int .u8 0, .int .u8 0, .int .u8 0, .int .u8 0, .int .u8 0, .int .u8 0, .int .u8 0, .int .u8 0, .int .u8 0, .int .u8 0, .int .u8 0, .int .u8 0, .int .u8 0, .int .u8 0, .int .u8 0, .int .u8 0, .int .u8 0, .int .u8 0, .int .u8 0, .int .u8 0, .int .u8 0, .int .u8 0, .int .u8 0, .int .u8 0, .int .u8 0, .int .u8 0, .int .u8 0, .int .u8 0, .int .u8 0].toArray) := by kernel_rfl

set_option maxHeartbeats 4000000 in
theorem clash_w (root p : Dg) (c : Cm) (x : Pf) (s : Sl) (d : Cm) (y : Pf) (t : Sl) (w : World) (hp : DB p) (hc : DB c.2) (hsb : ∀ f ∈ x.sib, DB f) (hx1 : DB x.path) (hx2 : DB x.val) (hd : DB d.2) (htb : ∀ f ∈ y.sib, DB f) (hy1 : DB y.path) (hy2 : DB y.val) (f1 : FA w (sbF x.sib s)) (f2 : FA w (sbF y.sib t)) (hB : x.sib.length ≤ 1099511627776) (hB2 : y.sib.length ≤ 1099511627776) (e1 : pchk root p c x = 0) (e2 : pchk root p d y = 0) (hne : c ≠ d) (hK : TabK KT 1 w) :
    Calls Tryd.prog 11 #[.int .i64 32, .agg (dgM root).toArray, .agg (dgM p).toArray, .agg (cmM c).toArray, .agg (pfM x s).toArray, .agg (cmM d).toArray, .agg (pfM y t).toArray] w fun e w' => ClashR p c x d y w e w' := by
  have h256 : x.sib.length ≤ 256 := (pchk_0 e1).1.1.1
  have h257 : y.sib.length ≤ 256 := (pchk_0 e2).1.1.1
  refine calls_of (args := [.int .i64 32, .agg (dgM root).toArray, .agg (dgM p).toArray, .agg (cmM c).toArray, .agg (pfM x s).toArray, .agg (cmM d).toArray, .agg (pfM y t).toArray]) ([]) ([]) ([sbF x.sib s, sbF y.sib t, tabF 1]) Tryd.func11 rfl rfl (okFW (.cons f1 (.cons f2 (.cons (tab_fa hK) .nil)))) ?_
  refine J_seq ?_
  refine J_region ?_
  refine L_box rfl rfl rfl rfl rfl (fun b0 => ?_)
  refine L_box rfl rfl rfl rfl rfl (fun b1 => ?_)
  refine L_box rfl rfl rfl rfl rfl (fun b2 => ?_)
  refine L_box rfl rfl rfl rfl rfl (fun b3 => ?_)
  refine L_box rfl rfl rfl rfl rfl (fun b4 => ?_)
  refine L_box rfl rfl rfl rfl rfl (fun b5 => ?_)
  refine L_v rfl rfl rfl (V_assign rfl rfl) ?_
  refine L_v rfl rfl rfl (V_assign rfl rfl) ?_
  refine L_v rfl rfl rfl (V_assign rfl rfl) ?_
  refine L_nil ?_
  change J _ _ _ _
  refine J_seq ?_
  refine J_midS (X := Nat × Nat × Nat × Nat × Nat) (fun z9 => { env := [(8, .pointer (some ⟨z9.1, 0, none⟩)), (10, .pointer (some ⟨z9.2.1, 0, none⟩)), (12, .pointer (some ⟨z9.2.2.1, 0, none⟩)), (17, .pointer (some ⟨z9.2.2.2.1, 0, none⟩)), (18, .pointer (some ⟨z9.2.2.2.2, 0, none⟩))], mem := [(z9.1, row 26 (dgM root)), (z9.2.1, row 54 (cmM c)), (z9.2.2.1, row 54 (cmM d)), (z9.2.2.2.1, row 96 (sdM p c x s)), (z9.2.2.2.2, row 96 (sdM p d y t))], facts := [sbF x.sib s, sbF y.sib t, tabF 1] }) ?_ ?_
  ·
    refine J_regionO (.pure 0 (.pure 1 (.pure 2 (.pure 3 (.pure 4 (.pure 5 (.pure 6 (.pure 7 (.pure 8 (.pure 9 (.two 10 (.one 11 (.one 12 (.one 13 (.nil)))) 11 (.one 10 (.one 12 (.one 13 (.nil))))))))))))))) ([(b0, row 26 (dgM root)), (b1, row 26 (dgM p)), (b2, row 54 (cmM c)), (b3, row 28 (pfM x s)), (b4, row 54 (cmM d)), (b5, row 28 (pfM y t))]) _ (Pk.of_sub (List.Sublist.cons_cons _ (List.Sublist.cons_cons _ (List.Sublist.cons_cons _ (List.Sublist.cons_cons _ (List.Sublist.cons_cons _ (List.Sublist.cons_cons _ (List.nil_sublist _)))))))) (fun f hf => hf) rfl rfl (by kernel_rfl) ?_
    refine LO_v rfl rfl rfl rfl (V_move rfl rfl) ?_
    refine LO_v rfl rfl rfl rfl (V_loadT 1 (vs := dgM p) rfl rfl rfl Tryd.underlying26 rfl sz26pp (by kernel_rfl) (by kernel_rfl)) ?_
    refine LO_v rfl rfl rfl rfl (V_loadT 2 (vs := cmM c) rfl rfl rfl Tryd.underlying54 rfl sz54pp (by kernel_rfl) (by kernel_rfl)) ?_
    refine LO_v rfl rfl rfl rfl (V_loadT 3 (vs := pfM x s) rfl rfl rfl Tryd.underlying28 rfl sz28pp (by kernel_rfl) (by kernel_rfl)) ?_
    refine LO_v rfl rfl rfl rfl (V_buildE (v := .agg (sdM p c x s).toArray) rfl rfl (fun w => by kernel_rfl)) ?_
    refine LO_v rfl rfl rfl rfl (V_move rfl rfl) ?_
    refine LO_v rfl rfl rfl rfl (V_loadT 1 (vs := dgM p) rfl rfl rfl Tryd.underlying26 rfl sz26pp (by kernel_rfl) (by kernel_rfl)) ?_
    refine LO_v rfl rfl rfl rfl (V_loadT 4 (vs := cmM d) rfl rfl rfl Tryd.underlying54 rfl sz54pp (by kernel_rfl) (by kernel_rfl)) ?_
    refine LO_v rfl rfl rfl rfl (V_loadT 5 (vs := pfM y t) rfl rfl rfl Tryd.underlying28 rfl sz28pp (by kernel_rfl) (by kernel_rfl)) ?_
    refine LO_v rfl rfl rfl rfl (V_buildE (v := .agg (sdM p d y t).toArray) rfl rfl (fun w => by kernel_rfl)) ?_
    refine LO_both ?_ ?_
    ·
      refine LO_s rfl rfl rfl (S_alloc rfl rfl rfl z96pp (fun b6 => ⟨(Pk.of_sub (List.Sublist.cons_cons _ (List.Sublist.cons_cons _ (List.Sublist.cons_cons _ (List.Sublist.cons_cons _ (List.Sublist.cons_cons _ (List.Sublist.cons_cons _ (List.nil_sublist _)))))))), (fun f hf => hf), ?_⟩))
      refine LO_s rfl rfl rfl (S_alloc rfl rfl rfl z96pp (fun b7 => ⟨(Pk.of_sub (List.Sublist.cons_cons _ (List.Sublist.cons_cons _ (List.Sublist.cons_cons _ (List.Sublist.cons_cons _ (List.Sublist.cons_cons _ (List.Sublist.cons_cons _ (List.nil_sublist _)))))))), (fun f hf => hf), ?_⟩))
      refine LO_s rfl rfl rfl (S_storeW 6 rfl rfl rfl rfl rfl (szd sz96pp (by kernel_rfl)) (all_one (by kernel_rfl)) (by kernel_rfl) ⟨(Pk.of_sub (List.Sublist.cons_cons _ (List.Sublist.cons_cons _ (List.Sublist.cons_cons _ (List.Sublist.cons_cons _ (List.Sublist.cons_cons _ (List.Sublist.cons_cons _ (List.nil_sublist _)))))))), (fun f hf => hf), ?_⟩)
      refine LO_s rfl rfl rfl (S_storeW 7 rfl rfl rfl rfl rfl (szd sz96pp (by kernel_rfl)) (all_one (by kernel_rfl)) (by kernel_rfl) ⟨(Pk.of_sub (List.Sublist.cons_cons _ (List.Sublist.cons_cons _ (List.Sublist.cons_cons _ (List.Sublist.cons_cons _ (List.Sublist.cons_cons _ (List.Sublist.cons_cons _ (List.nil_sublist _)))))))), (fun f hf => hf), ?_⟩)
      refine LO_nil ?_
      exact ⟨(b0, b2, b4, b6, b7), ⟨rfl, rfl, rfl, rfl, rfl, trivial⟩, fun w1 hw => hw.sub (List.Sublist.cons_cons _ (List.Sublist.cons _ (List.Sublist.cons_cons _ (List.Sublist.cons _ (List.Sublist.cons_cons _ (List.Sublist.cons _ (List.Sublist.cons_cons _ (List.Sublist.cons_cons _ (List.nil_sublist _))))))))) (fun f hf => hf), rfl⟩
    ·
      refine LO_s rfl rfl rfl (S_alloc rfl rfl rfl z96pp (fun b6 => ⟨(Pk.of_sub (List.Sublist.cons_cons _ (List.Sublist.cons_cons _ (List.Sublist.cons_cons _ (List.Sublist.cons_cons _ (List.Sublist.cons_cons _ (List.Sublist.cons_cons _ (List.nil_sublist _)))))))), (fun f hf => hf), ?_⟩))
      refine LO_s rfl rfl rfl (S_alloc rfl rfl rfl z96pp (fun b7 => ⟨(Pk.of_sub (List.Sublist.cons_cons _ (List.Sublist.cons_cons _ (List.Sublist.cons_cons _ (List.Sublist.cons_cons _ (List.Sublist.cons_cons _ (List.Sublist.cons_cons _ (List.nil_sublist _)))))))), (fun f hf => hf), ?_⟩))
      refine LO_s rfl rfl rfl (S_storeW 7 rfl rfl rfl rfl rfl (szd sz96pp (by kernel_rfl)) (all_one (by kernel_rfl)) (by kernel_rfl) ⟨(Pk.of_sub (List.Sublist.cons_cons _ (List.Sublist.cons_cons _ (List.Sublist.cons_cons _ (List.Sublist.cons_cons _ (List.Sublist.cons_cons _ (List.Sublist.cons_cons _ (List.nil_sublist _)))))))), (fun f hf => hf), ?_⟩)
      refine LO_s rfl rfl rfl (S_storeW 6 rfl rfl rfl rfl rfl (szd sz96pp (by kernel_rfl)) (all_one (by kernel_rfl)) (by kernel_rfl) ⟨(Pk.of_sub (List.Sublist.cons_cons _ (List.Sublist.cons_cons _ (List.Sublist.cons_cons _ (List.Sublist.cons_cons _ (List.Sublist.cons_cons _ (List.Sublist.cons_cons _ (List.nil_sublist _)))))))), (fun f hf => hf), ?_⟩)
      refine LO_nil ?_
      exact ⟨(b0, b2, b4, b7, b6), ⟨rfl, rfl, rfl, rfl, rfl, trivial⟩, fun w1 hw => hw.pk ⟨[(b0, row 26 (dgM root)), (b2, row 54 (cmM c)), (b4, row 54 (cmM d)), (b6, row 96 (sdM p d y t)), (b7, row 96 (sdM p c x s))], List.Perm.append_left [_, _, _] (List.Perm.swap _ _ _), (List.Sublist.cons_cons _ (List.Sublist.cons _ (List.Sublist.cons_cons _ (List.Sublist.cons _ (List.Sublist.cons_cons _ (List.Sublist.cons _ (List.Sublist.cons_cons _ (List.Sublist.cons_cons _ (List.nil_sublist _)))))))))⟩ (fun f hf => hf), rfl⟩
  rintro ⟨b0, b1, b2, b3, b4⟩
  change J _ _ _ _
  refine J_seq ?_
  refine J_seq ?_
  refine J_region ?_
  refine L_v rfl rfl rfl (V_loadT 3 (vs := sdM p c x s) rfl rfl rfl Tryd.underlying96 rfl sz96pp (by kernel_rfl) (by kernel_rfl)) ?_
  refine L_v rfl rfl rfl (V_loadT 0 (vs := dgM root) rfl rfl rfl Tryd.underlying26 rfl sz26pp (by kernel_rfl) (by kernel_rfl)) ?_
  refine L_callV rfl rfl rfl rfl rfl rfl tx30pp (fun w1 hw => pchk_e e1 s w1 hp hc hsb hx1 hx2 (hw.fa 0 rfl) hB (hw.fa 2 rfl).1) ?_
  refine L_v rfl rfl rfl (V_assign rfl rfl) ?_
  refine L_nil ?_
  change J _ _ _ _
  refine J_seq ?_
  refine J_region ?_
  refine L_v rfl rfl rfl (V_move rfl rfl) ?_
  refine L_v rfl rfl rfl (V_neq rfl rfl rfl (by first | exact decide_eq_true (by omega) | exact decide_eq_false (by omega) | rfl)) ?_
  refine L_nil ?_
  change J _ _ _ _
  refine J_false rfl ?_
  refine J_skip ?_
  change J _ _ _ _
  refine J_seq ?_
  refine J_seq ?_
  refine J_region ?_
  refine L_v rfl rfl rfl (V_loadT 4 (vs := sdM p d y t) rfl rfl rfl Tryd.underlying96 rfl sz96pp (by kernel_rfl) (by kernel_rfl)) ?_
  refine L_v rfl rfl rfl (V_loadT 0 (vs := dgM root) rfl rfl rfl Tryd.underlying26 rfl sz26pp (by kernel_rfl) (by kernel_rfl)) ?_
  refine L_callV rfl rfl rfl rfl rfl rfl tx30pp (fun w1 hw => pchk_e e2 t w1 hp hd htb hy1 hy2 (hw.fa 1 rfl) hB2 (hw.fa 2 rfl).1) ?_
  refine L_v rfl rfl rfl (V_assign rfl rfl) ?_
  refine L_nil ?_
  change J _ _ _ _
  refine J_seq ?_
  refine J_region ?_
  refine L_v rfl rfl rfl (V_move rfl rfl) ?_
  refine L_v rfl rfl rfl (V_neq rfl rfl rfl (by first | exact decide_eq_true (by omega) | exact decide_eq_false (by omega) | rfl)) ?_
  refine L_nil ?_
  change J _ _ _ _
  refine J_false rfl ?_
  refine J_skip ?_
  change J _ _ _ _
  refine J_seq ?_
  refine J_seq ?_
  refine J_region ?_
  refine L_v rfl rfl rfl (V_loadT 1 (vs := cmM c) rfl rfl rfl Tryd.underlying54 rfl sz54pp (by kernel_rfl) (by kernel_rfl)) ?_
  refine L_v rfl rfl rfl (V_loadT 2 (vs := cmM d) rfl rfl rfl Tryd.underlying54 rfl sz54pp (by kernel_rfl) (by kernel_rfl)) ?_
  refine L_v rfl rfl rfl (V_eqAgg rfl rfl rfl (by kernel_rfl : Tryd.prog.eqGuardType Tryd.prog.depth 54 = false) (fun w => eqCmDO _ _ w) rfl) ?_
  refine L_nil ?_
  change J _ _ _ _
  refine J_cond rfl (fun h1 => ?_) (fun h1 => ?_)
  ·
    first | (have h1 := of_decide_eq_true h1) | (have h1 := of_decide_eq_false h1) | skip
    exact absurd h1 hne
  ·
    first | (have h1 := of_decide_eq_true h1) | (have h1 := of_decide_eq_false h1) | skip
    refine J_skip ?_
    change J _ _ _ _
    refine J_seq ?_
    refine J_conv [(b3, row 96 (sdM p c x s)), (b4, row 96 (sdM p d y t))] [sbF x.sib s, sbF y.sib t, tabF 1] (fun w1 hw => hw.sub (List.Sublist.cons _ (List.Sublist.cons _ (List.Sublist.cons _ (List.Sublist.refl _)))) (fun f hf => hf)) ?_
    refine J_midS (X := Nat × Nat × List Value × (Nat → Nat × Nat) × Nat × Nat × List Value × (Nat → Nat × Nat)) (fun z9 => { env := [(21, .slice (some ⟨z9.1, 0, none⟩) (x.sib.length + 1) z9.2.1), (22, .slice (some ⟨z9.2.2.2.2.1, 0, none⟩) (y.sib.length + 1) z9.2.2.2.2.2.1)], mem := [(z9.1, row 57 (rgC p c x (x.sib.length + 1) (z9.2.2.2.1) ++ z9.2.2.1)), (z9.2.2.2.2.1, row 57 (rgC p d y (y.sib.length + 1) (z9.2.2.2.2.2.2.2) ++ z9.2.2.2.2.2.2.1))], facts := [byF w p c x (x.sib.length + 1) (z9.2.2.2.1), byF w p d y (y.sib.length + 1) (z9.2.2.2.2.2.2.2)] }) ?_ ?_
    ·
      refine J_regionO (.pure 0 (.pure 3 (.one 1 (.one 2 (.one 4 (.one 5 (.pure 6 (.pure 7 (.nil))))))))) _ _ (Pk.refl _) (fun f hf => hf) rfl rfl (by kernel_rfl) ?_
      refine LO_v rfl rfl rfl rfl (V_loadT 0 (vs := sdM p c x s) rfl rfl rfl Tryd.underlying96 rfl sz96pp (by kernel_rfl) (by kernel_rfl)) ?_
      refine LO_v rfl rfl rfl rfl (V_loadT 1 (vs := sdM p d y t) rfl rfl rfl Tryd.underlying96 rfl sz96pp (by kernel_rfl) (by kernel_rfl)) ?_
      refine LO_s rfl rfl rfl (S_call rfl rfl rfl tx32pp (fun w1 hw => (rungs_o p c x s w1).mono ?_))
      rintro e w' ⟨q1, rfl, hfr, hsz, hb⟩
      refine ⟨_, _, _, rfl, hw.newF hfr (f := blkF q1 (row 96 (sdM p c x s))) ⟨hb, fun k hk => by have hk : k = q1 := hk; subst hk; exact (Array.getElem?_eq_some_iff.1 hb).1⟩ (fun k hk => by have hk : k = q1 := hk; subst hk; exact hsz), rfl, (Pk.refl _), (fun f hf => List.mem_append_left _ hf), ?_⟩
      refine LO_s rfl rfl rfl (S_call rfl rfl rfl tx31pp (fun w1 hw => (collect_w p c x s q1 w1 hp hc hsb hx1 hx2 h256 (hw.fa 3 rfl) (hw.fa 0 rfl) (hw.fa 2 rfl).1).mono ?_))
      rintro e w' ⟨g1, cc1, rr1, f1_, rfl, hfr, hsz, hb, hf⟩
      refine ⟨_, _, _, rfl, coll_ok hw hfr hsz hb hf, rfl, (Pk.app (Pk.refl _) _), (fun f hf => List.mem_append_left _ (List.mem_append_left _ hf)), ?_⟩
      refine LO_s rfl rfl rfl (S_call rfl rfl rfl tx32pp (fun w1 hw => (rungs_o p d y t w1).mono ?_))
      rintro e w' ⟨q2, rfl, hfr, hsz, hb⟩
      refine ⟨_, _, _, rfl, hw.newF hfr (f := blkF q2 (row 96 (sdM p d y t))) ⟨hb, fun k hk => by have hk : k = q2 := hk; subst hk; exact (Array.getElem?_eq_some_iff.1 hb).1⟩ (fun k hk => by have hk : k = q2 := hk; subst hk; exact hsz), rfl, (Pk.app (Pk.refl _) _), (fun f hf => List.mem_append_left _ (List.mem_append_left _ (List.mem_append_left _ hf))), ?_⟩
      refine LO_s rfl rfl rfl (S_call rfl rfl rfl tx31pp (fun w1 hw => (collect_w p d y t q2 w1 hp hd htb hy1 hy2 h257 (hw.fa 5 rfl) (hw.fa 1 rfl) (hw.fa 2 rfl).1).mono ?_))
      rintro e w' ⟨g2, cc2, rr2, f2_, rfl, hfr, hsz, hb, hf⟩
      refine ⟨_, _, _, rfl, coll_ok hw hfr hsz hb hf, rfl, (Pk.app (Pk.app (Pk.refl _) _) _), (fun f hf => List.mem_append_left _ (List.mem_append_left _ (List.mem_append_left _ (List.mem_append_left _ hf)))), ?_⟩
      refine LO_v rfl rfl rfl rfl (V_assign rfl rfl) ?_
      refine LO_v rfl rfl rfl rfl (V_assign rfl rfl) ?_
      refine LO_nil ?_
      exact ⟨(g1, cc1, rr1, f1_, g2, cc2, rr2, f2_), ⟨rfl, rfl, trivial⟩, fun w1 hw => hw.pk (Pk.of_sub (List.Sublist.cons _ (List.Sublist.cons _ (List.Sublist.cons_cons _ (List.Sublist.cons_cons _ (List.nil_sublist _)))))) (fun f hf => by rcases List.mem_cons.1 hf with rfl | hf; exact List.mem_of_getElem? (i := 4) rfl; obtain rfl := List.mem_singleton.1 hf; exact List.mem_of_getElem? (i := 6) rfl), rfl⟩
    rintro ⟨ga, ca, ra, fa, gb, cb, rb, fb⟩
    change J _ _ _ _
    refine J_seq ?_
    refine J_region ?_
    refine L_v rfl rfl rfl (V_move rfl rfl) ?_
    refine L_callM 0 rfl rfl rfl rfl tx33pp rfl (fun w1 hw => reverse_w ga _ ca (rgC p c x (x.sib.length + 1) fa) ra w1 (hw.at (i := 0) rfl) (rgC_len _ _ _ _ _) (by omega) (rgC_one _ _ _ _ _)) ⟨rfl, ?_⟩
    refine L_nil ?_
    change J _ _ _ _
    refine J_seq ?_
    refine J_region ?_
    refine L_v rfl rfl rfl (V_move rfl rfl) ?_
    refine L_callM 1 rfl rfl rfl rfl tx33pp rfl (fun w1 hw => reverse_w gb _ cb (rgC p d y (y.sib.length + 1) fb) rb w1 (hw.at (i := 1) rfl) (rgC_len _ _ _ _ _) (by omega) (rgC_one _ _ _ _ _)) ⟨rfl, ?_⟩
    refine L_nil ?_
    change J _ _ _ _
    refine J_seq ?_
    refine J_seq ?_
    refine J_region ?_
    refine L_v rfl rfl rfl (V_move rfl rfl) ?_
    refine L_v rfl rfl rfl (V_len rfl rfl Tryd.underlying98 rfl) ?_
    refine L_v rfl rfl rfl (V_move rfl rfl) ?_
    refine L_v rfl rfl rfl (V_len rfl rfl Tryd.underlying98 rfl) ?_
    refine L_v rfl rfl rfl (V_min rfl rfl rfl rfl) ?_
    refine L_same 63 rfl ((show Value.int .i64 _ = Value.int .i64 ((min (x.sib.length + 1) (y.sib.length + 1) : Nat) : Int) from congrArg _ (by split <;> omega))) ?_
    refine L_v rfl rfl rfl (V_move rfl rfl) ?_
    refine L_nil ?_
    change J _ _ _ _
    refine J_block ?_
    refine J_loop (X := Nat) (fun i => { env := [(21, .slice (some ⟨ga, 0, none⟩) (x.sib.length + 1) ca), (22, .slice (some ⟨gb, 0, none⟩) (y.sib.length + 1) cb), (63, .int .i64 ((min (x.sib.length + 1) (y.sib.length + 1) : Nat) : Int)), (64, .int .i64 (i : Int))], mem := [(ga, row 57 ((rgC p c x (x.sib.length + 1) fa).reverse ++ ra)), (gb, row 57 ((rgC p d y (y.sib.length + 1) fb).reverse ++ rb))], facts := [byF w p c x (x.sib.length + 1) fa, byF w p d y (y.sib.length + 1) fb] }) (fun i => i ≤ min (x.sib.length + 1) (y.sib.length + 1) ∧ ∀ j, j < i → dnP p c x j = dnP p d y j) (fun i => min (x.sib.length + 1) (y.sib.length + 1) - i) 0 ⟨Nat.zero_le _, fun j h => absurd h (Nat.not_lt_zero _)⟩ ⟨⟨rfl, rfl, rfl, rfl, trivial⟩, List.Sublist.refl _, fun f hf => hf, rfl⟩ ?_
    rintro i ⟨hi, hall⟩
    refine J_seq ?_
    refine J_region ?_
    refine L_v rfl rfl rfl (V_lss rfl rfl rfl (by first | exact decide_eq_true (by omega) | exact decide_eq_false (by omega) | rfl)) ?_
    refine L_nil ?_
    change J _ _ _ _
    refine J_seq ?_
    refine J_cond rfl (fun h2 => ?_) (fun h2 => ?_)
    ·
      first | (have h2 := of_decide_eq_true h2) | (have h2 := of_decide_eq_false h2) | skip
      refine J_skip ?_
      change J _ _ _ _
      refine J_seq ?_
      refine J_block ?_
      refine J_seq ?_
      refine J_region ?_
      refine L_v rfl rfl rfl (V_move rfl rfl) ?_
      refine L_v rfl rfl rfl (V_assign rfl rfl) ?_
      refine L_nil ?_
      change J _ _ _ _
      refine J_seq ?_
      refine J_regionO (.pure 0 (.pure 1 (.pure 2 (.pure 3 (.pure 4 (.pure 5 (.pure 6 (.pure 7 (.one 8 (.pure 9 (.nil))))))))))) _ _ (Pk.refl _) (fun f hf => hf) rfl rfl (by kernel_rfl) ?_
      refine LO_v rfl rfl rfl rfl (V_move rfl rfl) ?_
      refine LO_v rfl rfl rfl rfl (V_move rfl rfl) ?_
      refine LO_v rfl rfl rfl rfl (V_indexSl (off' := i) rfl rfl rfl Tryd.underlying98 sz57pp (by omega) (by omega) (by show 0 + ((i : Nat) : Int).toNat * 1 = i; omega)) ?_
      refine LO_v rfl rfl rfl rfl (V_load1 0 (v := SLk p c x (x.sib.length - i) (fa (x.sib.length - i))) rfl rfl rfl Tryd.underlying57 rfl (rgR_get (by omega))) ?_
      refine LO_v rfl rfl rfl rfl (V_move rfl rfl) ?_
      refine LO_v rfl rfl rfl rfl (V_move rfl rfl) ?_
      refine LO_v rfl rfl rfl rfl (V_indexSl (off' := i) rfl rfl rfl Tryd.underlying98 sz57pp (by omega) (by omega) (by show 0 + ((i : Nat) : Int).toNat * 1 = i; omega)) ?_
      refine LO_v rfl rfl rfl rfl (V_load1 1 (v := SLk p d y (y.sib.length - i) (fb (y.sib.length - i))) rfl rfl rfl Tryd.underlying57 rfl (rgR_get (by omega))) ?_
      refine LO_callV rfl rfl rfl rfl rfl rfl rfl rfl tx34pp (fun w1 hw => equalB_w _ _ _ _ _ _ (upP p c x (x.sib.length - i)) (upP p d y (y.sib.length - i)) w1 (byF_get (hw.fa 0 rfl) (by omega)).1.1 (byF_get (hw.fa 1 rfl) (by omega)).1.1 (by have := upP_len p c x (x.sib.length - i); omega)) (Pk.refl _) (fun f hf => hf) ?_
      refine LO_v rfl rfl rfl rfl (V_not rfl rfl rfl) ?_
      refine LO_nil ?_
      change J _ _ _ _
      refine J_cond rfl (fun h3 => ?_) (fun h3 => ?_)
      ·
        first | (have h3 := of_decide_eq_true h3) | (have h3 := of_decide_eq_false h3) | skip
        have h4 : dnP p c x i ≠ dnP p d y i := by unfold dnP; simpa using h3
        refine J_seq ?_
        refine J_regionQ rfl (by kernel_rfl) ?_
        refine LQ_v rfl rfl rfl (V_move rfl rfl) ?_
        refine LQ_v rfl rfl rfl (V_move rfl rfl) ?_
        refine LQ_v rfl rfl rfl (V_indexSl (off' := i) rfl rfl rfl Tryd.underlying98 sz57pp (by omega) (by omega) (by show 0 + ((i : Nat) : Int).toNat * 1 = i; omega)) ?_
        refine LQ_v rfl rfl rfl (V_load1 0 (v := SLk p c x (x.sib.length - i) (fa (x.sib.length - i))) rfl rfl rfl Tryd.underlying57 rfl (rgR_get (by omega))) ?_
        refine LQ_v rfl rfl rfl (V_move rfl rfl) ?_
        refine LQ_v rfl rfl rfl (V_move rfl rfl) ?_
        refine LQ_v rfl rfl rfl (V_indexSl (off' := i) rfl rfl rfl Tryd.underlying98 sz57pp (by omega) (by omega) (by show 0 + ((i : Nat) : Int).toNat * 1 = i; omega)) ?_
        refine LQ_v rfl rfl rfl (V_load1 1 (v := SLk p d y (y.sib.length - i) (fb (y.sib.length - i))) rfl rfl rfl Tryd.underlying57 rfl (rgR_get (by omega))) ?_
        refine LQ_v rfl rfl rfl (V_assign rfl rfl) ?_
        refine LQ_v rfl rfl rfl (V_assign rfl rfl) ?_
        refine LQ_v rfl rfl rfl (V_assign rfl rfl) ?_
        refine LQ_nil ?_
        change J _ _ _ _
        refine J_ret ?_
        change Kret _ _ _ Exit.ret _
        refine ret3 rfl rfl (RV_t rfl) (RV_t rfl) (RV_t rfl) ?_
        exact fun w' h => ⟨i, _, _, rfl, h.fr, ⟨h4, part_sum (pchk_0 e1).2 (pchk_0 e2).2 (by omega) (by omega) hall⟩, byF_get (h.fa 0 rfl) (by omega), byF_get (h.fa 1 rfl) (by omega)⟩
      ·
        first | (have h3 := of_decide_eq_true h3) | (have h3 := of_decide_eq_false h3) | skip
        have h4 : dnP p c x i = dnP p d y i := by unfold dnP; simpa using h3
        refine J_skip ?_
        change J _ _ _ _
        refine J_region ?_
        refine L_v rfl rfl rfl (V_add rfl rfl rfl (by first | exact Go.IntWalk.i64_in _ (by omega) | rfl)) ?_
        refine L_v rfl rfl rfl (V_move rfl rfl) ?_
        refine L_nil ?_
        exact ⟨i + 1, ⟨by show i + 1 ≤ min (x.sib.length + 1) (y.sib.length + 1); omega, fun j hj => by
          rcases Nat.lt_or_eq_of_le (Nat.le_of_lt_succ hj) with h9 | rfl
          · exact hall j h9
          · exact h4⟩, by show min (x.sib.length + 1) (y.sib.length + 1) - (i + 1) < min (x.sib.length + 1) (y.sib.length + 1) - i; omega, ⟨rfl, rfl, rfl, rfl, trivial⟩, List.Sublist.refl _, fun f hf => hf, rfl⟩
    ·
      first | (have h2 := of_decide_eq_true h2) | (have h2 := of_decide_eq_false h2) | skip
      obtain ⟨j, hj1, hj2, hj⟩ := part_ex (root := root) (pchk_0 e1).1 (pchk_0 e2).1 hne
      exact absurd (hall j (by omega)) hj

end Go.Proofs.YtfdmjjhgdbpfeaaDoor
