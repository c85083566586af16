/- What the laws of layer 21 share. -/
import Derived.Test.YtfdmjjhgdbpfeaaCDo3
set_option linter.unusedVariables false
set_option linter.unusedSimpArgs false
set_option maxRecDepth 100000
namespace Go.Proofs.Ytfdmjjhgdbpfeaa
open Go.Sx
/-! ### The test without input: a client, step by step -/
def u1 : ByteArray := ⟨#[117]⟩
def k1' : ByteArray := ⟨#[107]⟩
def putC : Cmd := (1, 0, 0, u1, k1', 0, dz)
def c1 : Ct := { ct0 with id := 1, target := 1 }
def d1 : Cmd := (1, 1, 1, u1, k1', 0, dz)
def m1 : Ms := { ms0 with kind := 9, frm := -1, to := 1, seq := 1, cmd := d1 }
def c2 : Ct := ⟨1, 1, 1, true, m1, 0⟩
def c3 : Ct := ⟨1, 1, 2, true, { m1 with to := 2 }, 1⟩
def r1 : Rp := { rp0 with code := 141, seq := 1, lead := 3 }
def x1 : Ms := { ms0 with kind := 10, frm := 2, to := -1, reply := r1 }
def c4 : Ct := ⟨1, 1, 3, true, { m1 with to := 3 }, 2⟩
def r2 : Rp := { rp0 with seq := 1 }
def x2 : Ms := { ms0 with kind := 10, frm := 3, to := -1, reply := r2 }
def c5 : Ct := { ct0 with id := 1, seq := 1, target := 3 }
theorem s117 : u1.size = 1 := rfl
theorem s107 : k1'.size = 1 := rfl
theorem may1 : MayP d1 := .inl ⟨⟨by decide, by decide, by decide, by decide, by decide, by decide, rfl, rfl⟩, .inl ⟨.inl rfl, by decide, by decide⟩⟩
theorem right1 : RightP c1 := ⟨by decide, ⟨rfl, rfl⟩⟩
theorem rightB (t k : Int) (ht : 1 ≤ t ∧ t ≤ 7) (hk : 0 ≤ k ∧ k ≤ 1000) : RightP ⟨1, 1, t, true, { m1 with to := t }, k⟩ := ⟨⟨(by show (1 : Int) ≤ 1 ∧ (1 : Int) ≤ 4; decide), (by show (0 : Int) ≤ 1 ∧ (1 : Int) ≤ 1000000; decide), ht, hk⟩, ⟨may1, rfl, rfl, by show (0 : Int) < 1; decide⟩, rfl⟩
theorem right2 : RightP c2 := rightB 1 0 (by decide) (by decide)
theorem right3 : RightP c3 := rightB 2 1 (by decide) (by decide)
theorem right4 : RightP c4 := rightB 3 2 (by decide) (by decide)
theorem right5 : RightP c5 := ⟨by decide, ⟨rfl, rfl⟩⟩
theorem ready1 : ¬ readyE c1 ≠ 0 := by unfold readyE; rw [if_pos right1]; decide
theorem e12 : begC c1 putC 0 ⟨#[]⟩ = c2 ∧ begE c1 putC 0 ⟨#[]⟩ = 0 := call_yes ready1 ⟨may1, rfl, rfl, by show (0 : Int) < 1; decide⟩
theorem e22 : begC c2 putC 0 ⟨#[]⟩ = ct0 ∧ begE c2 putC 0 ⟨#[]⟩ = 181 := beg_busy right2 rfl
theorem rk2 : retK c2 = 2 := by unfold retK; rw [if_pos right2]; rfl
theorem hk3 : hearK c3 x1 = 3 := k3 right3 rfl rfl
theorem hk4 : hearK c4 x2 = 2 := k2 right4 rfl (by decide)
theorem chk5 : chkE c5 = 0 := chk_y right5
theorem sz50 {x : Ms} (h1 : x.council = ([], [])) (h2 : x.reply.vers = []) (h3 : x.reply.pf.sib = []) : Sz x [] := sz_nl h1 h2 h3
theorem call_1 (w : World) : Calls Try.prog 13 #[.agg (ctM c1 m50).toArray, .agg (cmdM putC).toArray] w fun e w' => e = .returned (.tuple #[.agg (ctM c2 m50).toArray, .agg (msM m1 m50).toArray, .int .i64 0]) ∧ Fr [] w w' := by
  have h := call_w c1 m50 [] putC w rfl fa_ms0 (sz50 rfl rfl rfl)
  rw [e12.1, e12.2] at h
  exact h
theorem call_2 (w : World) : Calls Try.prog 13 #[.agg (ctM c2 m50).toArray, .agg (cmdM putC).toArray] w fun e w' => e = .returned (.tuple #[.agg (ctM ct0 m50).toArray, .agg (msM ms0 m50).toArray, .int .i64 181]) ∧ Fr [] w w' := by
  have h := call_w c2 m50 [] putC w rfl fa_ms0 (sz50 rfl rfl rfl)
  rw [e22.1, e22.2] at h
  exact h
theorem retry_2 (w : World) : Calls Try.prog 17 #[.agg (ctM c2 m50).toArray] w fun e w' => e = .returned (.tuple #[.agg (ctM c3 m50).toArray, .agg (msM c3.msg m50).toArray, .int .i64 0]) ∧ Fr [] w w' := by
  have h := retry_w c2 m50 [] w rfl fa_ms0 (sz50 rfl rfl rfl)
  unfold retC retX retS retT retE at h
  rw [rk2] at h
  exact h
theorem check_5 (w : World) : Calls Try.prog 19 #[.agg (ctM c5 m50).toArray] w fun e w' => e = .returned (.int .i64 0) ∧ Fr [] w w' := by
  have h := check_w c5 m50 [] w rfl fa_ms0 (sz50 rfl rfl rfl)
  rw [chk5] at h
  exact h
theorem hear_3 (w : World) : Calls Try.prog 8 #[.agg (ctM c3 m50).toArray, .agg (msM x1 m50).toArray] w fun e w' => e = .returned (.tuple #[.agg (ctM c4 m50).toArray, .agg (msM c4.msg m50).toArray, .bool false, .int .i64 0]) ∧ Fr [] w w' := by
  have h := hear_w c3 m50 [] x1 m50 w rfl fa_ms0 (sz50 rfl rfl rfl)
  unfold hearC hearX hearS hearT hearD hearE at h
  rw [hk3] at h
  exact h
theorem hear_4 (w : World) : Calls Try.prog 8 #[.agg (ctM c4 m50).toArray, .agg (msM x2 m50).toArray] w fun e w' => e = .returned (.tuple #[.agg (ctM c5 m50).toArray, .agg (msM ms0 m50).toArray, .bool true, .int .i64 0]) ∧ Fr [] w w' := by
  have h := hear_w c4 m50 [] x2 m50 w rfl fa_ms0 (sz50 rfl rfl rfl)
  unfold hearC hearX hearS hearT hearD hearE at h
  rw [hk4] at h
  exact h
theorem sz3c : (Try.prog.info? 3).map (·.size) = some 1 := by kernel_rfl
theorem sz4c : (Try.prog.info? 4).map (·.size) = some 1 := by kernel_rfl
theorem sz9c : (Try.prog.info? 9).map (·.size) = some 1 := by kernel_rfl
theorem sz31c : (Try.prog.info? 31).map (·.size) = some 38 := by kernel_rfl
theorem sz45c : (Try.prog.info? 45).map (·.size) = some 225 := by kernel_rfl
theorem sz47c : (Try.prog.info? 47).map (·.size) = some 230 := by kernel_rfl
theorem tx8c : Txt Try.prog 8 := txt_of Try.func8 rfl (by kernel_rfl)
theorem tx13c : Txt Try.prog 13 := txt_of Try.func13 rfl (by kernel_rfl)
theorem tx17c : Txt Try.prog 17 := txt_of Try.func17 rfl (by kernel_rfl)
theorem tx19c : Txt Try.prog 19 := txt_of Try.func19 rfl (by kernel_rfl)
theorem tx20c : Txt Try.prog 20 := txt_of Try.func20 rfl (by kernel_rfl)
theorem tx30c : Txt Try.prog 30 := txt_of Try.func30 rfl (by kernel_rfl)
theorem tx31c : Txt Try.prog 31 := txt_of Try.func31 rfl (by kernel_rfl)
theorem z31c : (Try.prog.info? 31).bind (·.zero) = some (.agg [.int .i64 0, .int .i64 0, .int .i64 0, .string ByteArray.empty, .string ByteArray.empty, .int .i64 0, .int .u8 0, .int .u8 0, .int .u8 0, .int .u8 0, .int .u8 0, .int .u8 0, .int .u8 0, .int .u8 0, .int .u8 0, .int .u8 0, .int .u8 0, .int .u8 0, .int .u8 0, .int .u8 0, .int .u8 0, .int .u8 0, .int .u8 0, .int .u8 0, .int .u8 0, .int .u8 0, .int .u8 0, .int .u8 0, .int .u8 0, .int .u8 0, .int .u8 0, .int .u8 0, .int .u8 0, .int .u8 0, .int .u8 0, .int .u8 0, .int .u8 0, .int .u8 0].toArray) := by kernel_rfl
theorem z45c : (Try.prog.info? 45).bind (·.zero) = some (.agg [.int .i64 0, .int .i64 0, .int .i64 0, .int .i64 0, .int .i64 0, .int .i64 0, .int .i64 0, .int .i64 0, .bool false, .slice none 0 0, .slice none 0 0, .slice none 0 0, .int .i64 0, .int .i64 0, .string ByteArray.empty, .int .i64 0, .int .i64 0, .int .i64 0, .string ByteArray.empty, .string ByteArray.empty, .int .i64 0, .int .u8 0, .int .u8 0, .int .u8 0, .int .u8 0, .int .u8 0, .int .u8 0, .int .u8 0, .int .u8 0, .int .u8 0, .int .u8 0, .int .u8 0, .int .u8 0, .int .u8 0, .int .u8 0, .int .u8 0, .int .u8 0, .int .u8 0, .int .u8 0, .int .u8 0, .int .u8 0, .int .u8 0, .int .u8 0, .int .u8 0, .int .u8 0, .int .u8 0, .int .u8 0, .int .u8 0, .int .u8 0, .int .u8 0, .int .u8 0, .int .u8 0, .int .u8 0, .int .i64 0, .int .i64 0, .string ByteArray.empty, .int .i64 0, .int .i64 0, .int .i64 0, .int .i64 0, .int .i64 0, .slice none 0 0, .slice none 0 0, .bool false, .int .u8 0, .int .u8 0, .int .u8 0, .int .u8 0, .int .u8 0, .int .u8 0, .int .u8 0, .int .u8 0, .int .u8 0, .int .u8 0, .int .u8 0, .int .u8 0, .int .u8 0, .int .u8 0, .int .u8 0, .int .u8 0, .int .u8 0, .int .u8 0, .int .u8 0, .int .u8 0, .int .u8 0, .int .u8 0, .int .u8 0, .int .u8 0, .int .u8 0, .int .u8 0, .int .u8 0, .int .u8 0, .int .u8 0, .int .u8 0, .int .u8 0, .int .u8 0, .int .u8 0, .int .u8 0, .int .u8 0, .int .u8 0, .int .u8 0, .int .u8 0, .int .u8 0, .int .u8 0, .int .u8 0, .int .u8 0, .int .u8 0, .int .u8 0, .int .u8 0, .int .u8 0, .int .u8 0, .int .u8 0, .int .u8 0, .int .u8 0, .int .u8 0, .int .u8 0, .int .u8 0, .int .u8 0, .int .u8 0, .int .u8 0, .int .u8 0, .int .u8 0, .int .u8 0, .int .u8 0, .int .u8 0, .int .u8 0, .int .u8 0, .int .u8 0, .int .i64 0, .int .u8 0, .int .u8 0, .int .u8 0, .int .u8 0, .int .u8 0, .int .u8 0, .int .u8 0, .int .u8 0, .int .u8 0, .int .u8 0, .int .u8 0, .int .u8 0, .int .u8 0, .int .u8 0, .int .u8 0, .int .u8 0, .int .u8 0, .int .u8 0, .int .u8 0, .int .u8 0, .int .u8 0, .int .u8 0, .int .u8 0, .int .u8 0, .int .u8 0, .int .u8 0, .int .u8 0, .int .u8 0, .int .u8 0, .int .u8 0, .int .u8 0, .int .u8 0, .int .u8 0, .int .u8 0, .int .u8 0, .int .u8 0, .int .u8 0, .int .u8 0, .int .u8 0, .int .u8 0, .int .u8 0, .int .u8 0, .int .u8 0, .int .u8 0, .int .u8 0, .int .u8 0, .int .u8 0, .int .u8 0, .int .u8 0, .int .u8 0, .int .u8 0, .int .u8 0, .int .u8 0, .int .u8 0, .int .u8 0, .int .u8 0, .int .u8 0, .int .u8 0, .int .u8 0, .int .u8 0, .int .u8 0, .int .u8 0, .int .u8 0, .int .u8 0, .int .u8 0, .int .u8 0, .int .u8 0, .int .u8 0, .int .u8 0, .int .u8 0, .int .u8 0, .int .u8 0, .int .u8 0, .int .u8 0, .int .u8 0, .int .u8 0, .int .u8 0, .int .u8 0, .int .u8 0, .int .u8 0, .int .u8 0, .int .u8 0, .int .u8 0, .int .u8 0, .int .u8 0, .int .u8 0, .int .u8 0, .int .u8 0, .int .u8 0, .int .u8 0, .int .u8 0, .int .u8 0, .int .u8 0, .int .u8 0, .int .u8 0, .int .u8 0].toArray) := by kernel_rfl
theorem z47c : (Try.prog.info? 47).bind (·.zero) = some (.agg [.int .i64 0, .int .i64 0, .int .i64 0, .bool false, .int .i64 0, .int .i64 0, .int .i64 0, .int .i64 0, .int .i64 0, .int .i64 0, .int .i64 0, .int .i64 0, .bool false, .slice none 0 0, .slice none 0 0, .slice none 0 0, .int .i64 0, .int .i64 0, .string ByteArray.empty, .int .i64 0, .int .i64 0, .int .i64 0, .string ByteArray.empty, .string ByteArray.empty, .int .i64 0, .int .u8 0, .int .u8 0, .int .u8 0, .int .u8 0, .int .u8 0, .int .u8 0, .int .u8 0, .int .u8 0, .int .u8 0, .int .u8 0, .int .u8 0, .int .u8 0, .int .u8 0, .int .u8 0, .int .u8 0, .int .u8 0, .int .u8 0, .int .u8 0, .int .u8 0, .int .u8 0, .int .u8 0, .int .u8 0, .int .u8 0, .int .u8 0, .int .u8 0, .int .u8 0, .int .u8 0, .int .u8 0, .int .u8 0, .int .u8 0, .int .u8 0, .int .u8 0, .int .i64 0, .int .i64 0, .string ByteArray.empty, .int .i64 0, .int .i64 0, .int .i64 0, .int .i64 0, .int .i64 0, .slice none 0 0, .slice none 0 0, .bool false, .int .u8 0, .int .u8 0, .int .u8 0, .int .u8 0, .int .u8 0, .int .u8 0, .int .u8 0, .int .u8 0, .int .u8 0, .int .u8 0, .int .u8 0, .int .u8 0, .int .u8 0, .int .u8 0, .int .u8 0, .int .u8 0, .int .u8 0, .int .u8 0, .int .u8 0, .int .u8 0, .int .u8 0, .int .u8 0, .int .u8 0, .int .u8 0, .int .u8 0, .int .u8 0, .int .u8 0, .int .u8 0, .int .u8 0, .int .u8 0, .int .u8 0, .int .u8 0, .int .u8 0, .int .u8 0, .int .u8 0, .int .u8 0, .int .u8 0, .int .u8 0, .int .u8 0, .int .u8 0, .int .u8 0, .int .u8 0, .int .u8 0, .int .u8 0, .int .u8 0, .int .u8 0, .int .u8 0, .int .u8 0, .int .u8 0, .int .u8 0, .int .u8 0, .int .u8 0, .int .u8 0, .int .u8 0, .int .u8 0, .int .u8 0, .int .u8 0, .int .u8 0, .int .u8 0, .int .u8 0, .int .u8 0, .int .u8 0, .int .u8 0, .int .u8 0, .int .i64 0, .int .u8 0, .int .u8 0, .int .u8 0, .int .u8 0, .int .u8 0, .int .u8 0, .int .u8 0, .int .u8 0, .int .u8 0, .int .u8 0, .int .u8 0, .int .u8 0, .int .u8 0, .int .u8 0, .int .u8 0, .int .u8 0, .int .u8 0, .int .u8 0, .int .u8 0, .int .u8 0, .int .u8 0, .int .u8 0, .int .u8 0, .int .u8 0, .int .u8 0, .int .u8 0, .int .u8 0, .int .u8 0, .int .u8 0, .int .u8 0, .int .u8 0, .int .u8 0, .int .u8 0, .int .u8 0, .int .u8 0, .int .u8 0, .int .u8 0, .int .u8 0, .int .u8 0, .int .u8 0, .int .u8 0, .int .u8 0, .int .u8 0, .int .u8 0, .int .u8 0, .int .u8 0, .int .u8 0, .int .u8 0, .int .u8 0, .int .u8 0, .int .u8 0, .int .u8 0, .int .u8 0, .int .u8 0, .int .u8 0, .int .u8 0, .int .u8 0, .int .u8 0, .int .u8 0, .int .u8 0, .int .u8 0, .int .u8 0, .int .u8 0, .int .u8 0, .int .u8 0, .int .u8 0, .int .u8 0, .int .u8 0, .int .u8 0, .int .u8 0, .int .u8 0, .int .u8 0, .int .u8 0, .int .u8 0, .int .u8 0, .int .u8 0, .int .u8 0, .int .u8 0, .int .u8 0, .int .u8 0, .int .u8 0, .int .u8 0, .int .u8 0, .int .u8 0, .int .u8 0, .int .u8 0, .int .u8 0, .int .u8 0, .int .u8 0, .int .u8 0, .int .u8 0, .int .u8 0, .int .u8 0, .int .u8 0, .int .u8 0, .int .u8 0, .int .i64 0].toArray) := by kernel_rfl

theorem new_1 (w : World) :
    Calls Try.prog 30 #[.int .i64 1] w fun e w' => e = .returned (.tuple #[.agg (ctM c1 m50).toArray, .int .i64 0]) ∧ Fr [] w w' := by
  refine calls_of (args := [.int .i64 1]) ([]) ([]) ([]) Try.func30 rfl rfl (okW0 _ _ _ _) ?_
  refine J_seq ?_
  refine J_region ?_
  refine L_alloc rfl rfl rfl rfl z47c (fun b0 => ?_)
  refine L_v rfl rfl rfl (V_assign rfl rfl) ?_
  refine L_nil ?_
  change J _ _ _ _
  refine J_seq ?_
  refine J_region ?_
  refine L_v rfl rfl rfl (V_move rfl rfl) ?_
  refine L_v rfl rfl rfl (V_buildE (v := .agg (ctM c1 m50).toArray) rfl rfl (fun w => by kernel_rfl)) ?_
  refine L_alloc rfl rfl rfl rfl z47c (fun b1 => ?_)
  refine L_storeW 1 rfl rfl rfl rfl rfl rfl (szd sz47c (by kernel_rfl)) (all_one (by kernel_rfl)) (by kernel_rfl) ?_
  refine L_nil ?_
  change J _ _ _ _
  refine J_seq ?_
  refine J_seq ?_
  refine J_region ?_
  refine L_v rfl rfl rfl (V_loadT 1 (vs := ctM c1 m50) rfl rfl rfl Try.underlying47 rfl sz47c (by kernel_rfl) (by kernel_rfl)) ?_
  refine L_callV rfl rfl rfl rfl rfl rfl tx19c (fun w1 hw => (by have h := check_w c1 m50 [] w1 rfl fa_ms0 (sz50 rfl rfl rfl); rw [chk_y right1] at h; exact h)) ?_
  refine L_v rfl rfl rfl (V_assign rfl rfl) ?_
  refine L_nil ?_
  change J _ _ _ _
  refine J_seq ?_
  refine J_region ?_
  refine L_v rfl rfl rfl (V_move rfl rfl) ?_
  refine L_v rfl rfl rfl (V_neq rfl rfl rfl (decide_eq_false (fun h => h rfl))) ?_
  refine L_nil ?_
  change J _ _ _ _
  refine J_false rfl ?_
  refine J_skip ?_
  change J _ _ _ _
  refine J_seq ?_
  refine J_region ?_
  refine L_v rfl rfl rfl (V_loadT 1 (vs := ctM c1 m50) rfl rfl rfl Try.underlying47 rfl sz47c (by kernel_rfl) (by kernel_rfl)) ?_
  refine L_storeW 0 rfl rfl rfl rfl rfl rfl (szd sz47c (by kernel_rfl)) (all_one (by kernel_rfl)) (by kernel_rfl) ?_
  refine L_v rfl rfl rfl (V_assign rfl rfl) ?_
  refine L_nil ?_
  change J _ _ _ _
  refine J_ret ?_
  change Kret _ _ _ Exit.ret _
  refine ret2 rfl rfl (RV_c 0 rfl rfl Try.underlying47 rfl (szd sz47c (by kernel_rfl))) (RV_t rfl) ?_
  exact fun w' h => ⟨rfl, h.fr⟩

theorem put_w (w : World) :
    Calls Try.prog 31 #[] w fun e w' => e = .returned (.agg (cmdM putC).toArray) ∧ Fr [] w w' := by
  refine calls_of (args := []) ([]) ([]) ([]) Try.func31 rfl rfl (okW0 _ _ _ _) ?_
  refine J_seq ?_
  refine J_region ?_
  refine L_alloc rfl rfl rfl rfl z31c (fun b0 => ?_)
  refine L_nil ?_
  change J _ _ _ _
  refine J_seq ?_
  refine J_region ?_
  refine L_v rfl rfl rfl (V_buildE (v := .agg (cmdM putC).toArray) rfl rfl (fun w => by kernel_rfl)) ?_
  refine L_storeW 0 rfl rfl rfl rfl rfl rfl (szd sz31c (by kernel_rfl)) (all_one (by kernel_rfl)) (by kernel_rfl) ?_
  refine L_nil ?_
  change J _ _ _ _
  refine J_ret ?_
  change Kret _ _ _ Exit.ret _
  refine ret1 rfl rfl (RV_c 0 rfl rfl Try.underlying31 rfl (szd sz31c (by kernel_rfl))) ?_
  exact fun w' h => ⟨rfl, h.fr⟩

set_option maxHeartbeats 2000000 in
theorem large_w (c : Ct) (m : M5) (es : List EnV) (x : Ms) (n : M5) (gs : List EnV) (a b : ByteArray) (w : World) (hx : c.msg.entries = es.map Prod.fst) (hy : x.entries = gs.map Prod.fst) (f1 : FA w (msF c.msg m es)) (f2 : FA w (msF x n gs)) :
    Calls Try.prog 6 #[.agg (ctM c m).toArray, .agg (msM x n).toArray, .string a, .string b] w fun e w' => ∃ b : Bool, e = .returned (.bool b) ∧ Fr [] w w' ∧ (b = false → Sz c.msg es ∧ Sz x gs) := by
  refine calls_of (args := [.agg (ctM c m).toArray, .agg (msM x n).toArray, .string a, .string b]) ([]) ([]) ([msF c.msg m es, msF x n gs]) Try.func6 rfl rfl (okFW (.cons f1 (.cons f2 .nil))) ?_
  refine J_seq ?_
  refine J_region ?_
  refine L_box rfl rfl rfl rfl rfl (fun b0 => ?_)
  refine L_box rfl rfl rfl rfl rfl (fun b1 => ?_)
  refine L_v rfl rfl rfl (V_assign rfl rfl) ?_
  refine L_nil ?_
  change J _ _ _ _
  refine J_seq ?_
  refine J_region ?_
  refine L_v rfl rfl rfl (V_buildE (v := .agg (zST).toArray) rfl rfl (fun w => by kernel_rfl)) ?_
  refine L_v rfl rfl rfl (V_fieldAddr rfl rfl Try.underlying47 rfl sz45c rfl) ?_
  refine L_v rfl rfl rfl (V_loadT 0 (vs := msM c.msg m) rfl rfl rfl Try.underlying45 rfl sz45c (by kernel_rfl) (by kernel_rfl)) ?_
  refine L_call rfl rfl rfl rfl tx20c (fun w1 hw => (big17_w c.msg m es w1 hx (hw.fa 0 rfl)).mono ?_)
  rintro e w' ⟨q1, rfl, hfr, hq1⟩
  refine ⟨_, _, _, rfl, hw.fr0 hfr, rfl, ?_⟩
  refine L_v rfl rfl rfl (V_move rfl rfl) ?_
  refine L_split 13 rfl (fun h1 => ?_) (fun h1 => ?_)
  ·
    first | (have h1 := of_decide_eq_true h1) | (have h1 := of_decide_eq_false h1) | skip
    obtain rfl : q1 = true := h1
    refine L_skip rfl rfl rfl rfl rfl rfl rfl ?_
    refine L_skip rfl rfl rfl rfl rfl rfl rfl ?_
    refine L_skip rfl rfl rfl rfl rfl rfl rfl ?_
    first | refine L_v rfl rfl rfl (V_pickT rfl rfl rfl) ?_ | refine L_v rfl rfl rfl (V_pickF rfl rfl rfl) ?_
    refine L_v rfl rfl rfl (V_move rfl rfl) ?_
    refine L_skip rfl rfl rfl rfl rfl rfl rfl ?_
    refine L_skip rfl rfl rfl rfl rfl rfl rfl ?_
    refine L_skip rfl rfl rfl rfl rfl rfl rfl ?_
    first | refine L_v rfl rfl rfl (V_pickT rfl rfl rfl) ?_ | refine L_v rfl rfl rfl (V_pickF rfl rfl rfl) ?_
    refine L_v rfl rfl rfl (V_move rfl rfl) ?_
    refine L_skip rfl rfl rfl rfl rfl rfl rfl ?_
    refine L_skip rfl rfl rfl rfl rfl rfl rfl ?_
    refine L_skip rfl rfl rfl rfl rfl rfl rfl ?_
    first | refine L_v rfl rfl rfl (V_pickT rfl rfl rfl) ?_ | refine L_v rfl rfl rfl (V_pickF rfl rfl rfl) ?_
    refine L_v rfl rfl rfl (V_move rfl rfl) ?_
    refine L_skip rfl rfl rfl rfl rfl rfl rfl ?_
    refine L_skip rfl rfl rfl rfl rfl rfl rfl ?_
    refine L_skip rfl rfl rfl rfl rfl rfl rfl ?_
    refine L_skip rfl rfl rfl rfl rfl rfl rfl ?_
    refine L_skip rfl rfl rfl rfl rfl rfl rfl ?_
    first | refine L_v rfl rfl rfl (V_pickT rfl rfl rfl) ?_ | refine L_v rfl rfl rfl (V_pickF rfl rfl rfl) ?_
    refine L_v rfl rfl rfl (V_move rfl rfl) ?_
    refine L_skip rfl rfl rfl rfl rfl rfl rfl ?_
    refine L_skip rfl rfl rfl rfl rfl rfl rfl ?_
    refine L_skip rfl rfl rfl rfl rfl rfl rfl ?_
    refine L_skip rfl rfl rfl rfl rfl rfl rfl ?_
    refine L_skip rfl rfl rfl rfl rfl rfl rfl ?_
    refine L_skip rfl rfl rfl rfl rfl rfl rfl ?_
    first | refine L_v rfl rfl rfl (V_pickT rfl rfl rfl) ?_ | refine L_v rfl rfl rfl (V_pickF rfl rfl rfl) ?_
    refine L_v rfl rfl rfl (V_move rfl rfl) ?_
    refine L_skip rfl rfl rfl rfl rfl rfl rfl ?_
    refine L_skip rfl rfl rfl rfl rfl rfl rfl ?_
    refine L_skip rfl rfl rfl rfl rfl rfl rfl ?_
    refine L_skip rfl rfl rfl rfl rfl rfl rfl ?_
    refine L_skip rfl rfl rfl rfl rfl rfl rfl ?_
    refine L_skip rfl rfl rfl rfl rfl rfl rfl ?_
    first | refine L_v rfl rfl rfl (V_pickT rfl rfl rfl) ?_ | refine L_v rfl rfl rfl (V_pickF rfl rfl rfl) ?_
    refine L_v rfl rfl rfl (V_move rfl rfl) ?_
    refine L_skip rfl rfl rfl rfl rfl rfl rfl ?_
    refine L_skip rfl rfl rfl rfl rfl rfl rfl ?_
    refine L_skip rfl rfl rfl rfl rfl rfl rfl ?_
    refine L_skip rfl rfl rfl rfl rfl rfl rfl ?_
    refine L_skip rfl rfl rfl rfl rfl rfl rfl ?_
    first | refine L_v rfl rfl rfl (V_pickT rfl rfl rfl) ?_ | refine L_v rfl rfl rfl (V_pickF rfl rfl rfl) ?_
    refine L_v rfl rfl rfl (V_assign rfl rfl) ?_
    refine L_nil ?_
    change J _ _ _ _
    refine J_ret ?_
    change Kret _ _ _ Exit.ret _
    refine ret1 rfl rfl (RV_t rfl) ?_
    exact fun w' h => ⟨_, rfl, h.fr, fun hb => by cases hb⟩
  ·
    first | (have h1 := of_decide_eq_true h1) | (have h1 := of_decide_eq_false h1) | skip
    obtain rfl : q1 = false := h1
    refine L_wv rfl rfl rfl rfl rfl rfl (V_buildE (v := .agg (zST).toArray) rfl rfl (fun w => by kernel_rfl)) ?_
    refine L_wv rfl rfl rfl rfl rfl rfl (V_loadT 1 (vs := msM x n) rfl rfl rfl Try.underlying45 rfl sz45c (by kernel_rfl) (by kernel_rfl)) ?_
    refine L_want rfl rfl rfl rfl (S_call rfl rfl rfl tx20c (fun w1 hw => (big17_w x n gs w1 hy (hw.fa 1 rfl)).mono ?_))
    rintro e w' ⟨q2, rfl, hfr, hq2⟩
    refine ⟨_, _, _, rfl, hw.fr0 hfr, rfl, ?_⟩
    first | refine L_v rfl rfl rfl (V_pickT rfl rfl rfl) ?_ | refine L_v rfl rfl rfl (V_pickF rfl rfl rfl) ?_
    refine L_v rfl rfl rfl (V_move rfl rfl) ?_
    refine L_split 18 rfl (fun h2 => ?_) (fun h2 => ?_)
    ·
      first | (have h2 := of_decide_eq_true h2) | (have h2 := of_decide_eq_false h2) | skip
      obtain rfl : q2 = true := h2
      refine L_skip rfl rfl rfl rfl rfl rfl rfl ?_
      refine L_skip rfl rfl rfl rfl rfl rfl rfl ?_
      refine L_skip rfl rfl rfl rfl rfl rfl rfl ?_
      first | refine L_v rfl rfl rfl (V_pickT rfl rfl rfl) ?_ | refine L_v rfl rfl rfl (V_pickF rfl rfl rfl) ?_
      refine L_v rfl rfl rfl (V_move rfl rfl) ?_
      refine L_skip rfl rfl rfl rfl rfl rfl rfl ?_
      refine L_skip rfl rfl rfl rfl rfl rfl rfl ?_
      refine L_skip rfl rfl rfl rfl rfl rfl rfl ?_
      first | refine L_v rfl rfl rfl (V_pickT rfl rfl rfl) ?_ | refine L_v rfl rfl rfl (V_pickF rfl rfl rfl) ?_
      refine L_v rfl rfl rfl (V_move rfl rfl) ?_
      refine L_skip rfl rfl rfl rfl rfl rfl rfl ?_
      refine L_skip rfl rfl rfl rfl rfl rfl rfl ?_
      refine L_skip rfl rfl rfl rfl rfl rfl rfl ?_
      refine L_skip rfl rfl rfl rfl rfl rfl rfl ?_
      refine L_skip rfl rfl rfl rfl rfl rfl rfl ?_
      first | refine L_v rfl rfl rfl (V_pickT rfl rfl rfl) ?_ | refine L_v rfl rfl rfl (V_pickF rfl rfl rfl) ?_
      refine L_v rfl rfl rfl (V_move rfl rfl) ?_
      refine L_skip rfl rfl rfl rfl rfl rfl rfl ?_
      refine L_skip rfl rfl rfl rfl rfl rfl rfl ?_
      refine L_skip rfl rfl rfl rfl rfl rfl rfl ?_
      refine L_skip rfl rfl rfl rfl rfl rfl rfl ?_
      refine L_skip rfl rfl rfl rfl rfl rfl rfl ?_
      refine L_skip rfl rfl rfl rfl rfl rfl rfl ?_
      first | refine L_v rfl rfl rfl (V_pickT rfl rfl rfl) ?_ | refine L_v rfl rfl rfl (V_pickF rfl rfl rfl) ?_
      refine L_v rfl rfl rfl (V_move rfl rfl) ?_
      refine L_skip rfl rfl rfl rfl rfl rfl rfl ?_
      refine L_skip rfl rfl rfl rfl rfl rfl rfl ?_
      refine L_skip rfl rfl rfl rfl rfl rfl rfl ?_
      refine L_skip rfl rfl rfl rfl rfl rfl rfl ?_
      refine L_skip rfl rfl rfl rfl rfl rfl rfl ?_
      refine L_skip rfl rfl rfl rfl rfl rfl rfl ?_
      first | refine L_v rfl rfl rfl (V_pickT rfl rfl rfl) ?_ | refine L_v rfl rfl rfl (V_pickF rfl rfl rfl) ?_
      refine L_v rfl rfl rfl (V_move rfl rfl) ?_
      refine L_skip rfl rfl rfl rfl rfl rfl rfl ?_
      refine L_skip rfl rfl rfl rfl rfl rfl rfl ?_
      refine L_skip rfl rfl rfl rfl rfl rfl rfl ?_
      refine L_skip rfl rfl rfl rfl rfl rfl rfl ?_
      refine L_skip rfl rfl rfl rfl rfl rfl rfl ?_
      first | refine L_v rfl rfl rfl (V_pickT rfl rfl rfl) ?_ | refine L_v rfl rfl rfl (V_pickF rfl rfl rfl) ?_
      refine L_v rfl rfl rfl (V_assign rfl rfl) ?_
      refine L_nil ?_
      change J _ _ _ _
      refine J_ret ?_
      change Kret _ _ _ Exit.ret _
      refine ret1 rfl rfl (RV_t rfl) ?_
      exact fun w' h => ⟨_, rfl, h.fr, fun hb => by cases hb⟩
    ·
      first | (have h2 := of_decide_eq_true h2) | (have h2 := of_decide_eq_false h2) | skip
      obtain rfl : q2 = false := h2
      refine L_wv rfl rfl rfl rfl rfl rfl (V_move rfl rfl) ?_
      refine L_wv rfl rfl rfl rfl rfl rfl (V_lenS rfl rfl Try.underlying9 rfl) ?_
      refine L_wv rfl rfl rfl rfl rfl rfl (V_gtr rfl rfl rfl (by first | exact decide_eq_true (by omega) | exact decide_eq_false (by omega) | rfl)) ?_
      first | refine L_v rfl rfl rfl (V_pickT rfl rfl rfl) ?_ | refine L_v rfl rfl rfl (V_pickF rfl rfl rfl) ?_
      refine L_v rfl rfl rfl (V_move rfl rfl) ?_
      refine L_split 23 rfl (fun h3 => ?_) (fun h3 => ?_)
      ·
        first | (have h3 := of_decide_eq_true h3) | (have h3 := of_decide_eq_false h3) | skip
        refine L_skip rfl rfl rfl rfl rfl rfl rfl ?_
        refine L_skip rfl rfl rfl rfl rfl rfl rfl ?_
        refine L_skip rfl rfl rfl rfl rfl rfl rfl ?_
        first | refine L_v rfl rfl rfl (V_pickT rfl rfl rfl) ?_ | refine L_v rfl rfl rfl (V_pickF rfl rfl rfl) ?_
        refine L_v rfl rfl rfl (V_move rfl rfl) ?_
        refine L_skip rfl rfl rfl rfl rfl rfl rfl ?_
        refine L_skip rfl rfl rfl rfl rfl rfl rfl ?_
        refine L_skip rfl rfl rfl rfl rfl rfl rfl ?_
        refine L_skip rfl rfl rfl rfl rfl rfl rfl ?_
        refine L_skip rfl rfl rfl rfl rfl rfl rfl ?_
        first | refine L_v rfl rfl rfl (V_pickT rfl rfl rfl) ?_ | refine L_v rfl rfl rfl (V_pickF rfl rfl rfl) ?_
        refine L_v rfl rfl rfl (V_move rfl rfl) ?_
        refine L_skip rfl rfl rfl rfl rfl rfl rfl ?_
        refine L_skip rfl rfl rfl rfl rfl rfl rfl ?_
        refine L_skip rfl rfl rfl rfl rfl rfl rfl ?_
        refine L_skip rfl rfl rfl rfl rfl rfl rfl ?_
        refine L_skip rfl rfl rfl rfl rfl rfl rfl ?_
        refine L_skip rfl rfl rfl rfl rfl rfl rfl ?_
        first | refine L_v rfl rfl rfl (V_pickT rfl rfl rfl) ?_ | refine L_v rfl rfl rfl (V_pickF rfl rfl rfl) ?_
        refine L_v rfl rfl rfl (V_move rfl rfl) ?_
        refine L_skip rfl rfl rfl rfl rfl rfl rfl ?_
        refine L_skip rfl rfl rfl rfl rfl rfl rfl ?_
        refine L_skip rfl rfl rfl rfl rfl rfl rfl ?_
        refine L_skip rfl rfl rfl rfl rfl rfl rfl ?_
        refine L_skip rfl rfl rfl rfl rfl rfl rfl ?_
        refine L_skip rfl rfl rfl rfl rfl rfl rfl ?_
        first | refine L_v rfl rfl rfl (V_pickT rfl rfl rfl) ?_ | refine L_v rfl rfl rfl (V_pickF rfl rfl rfl) ?_
        refine L_v rfl rfl rfl (V_move rfl rfl) ?_
        refine L_skip rfl rfl rfl rfl rfl rfl rfl ?_
        refine L_skip rfl rfl rfl rfl rfl rfl rfl ?_
        refine L_skip rfl rfl rfl rfl rfl rfl rfl ?_
        refine L_skip rfl rfl rfl rfl rfl rfl rfl ?_
        refine L_skip rfl rfl rfl rfl rfl rfl rfl ?_
        first | refine L_v rfl rfl rfl (V_pickT rfl rfl rfl) ?_ | refine L_v rfl rfl rfl (V_pickF rfl rfl rfl) ?_
        refine L_v rfl rfl rfl (V_assign rfl rfl) ?_
        refine L_nil ?_
        change J _ _ _ _
        refine J_ret ?_
        change Kret _ _ _ Exit.ret _
        refine ret1 rfl rfl (RV_t rfl) ?_
        exact fun w' h => ⟨_, rfl, h.fr, fun hb => by cases hb⟩
      ·
        first | (have h3 := of_decide_eq_true h3) | (have h3 := of_decide_eq_false h3) | skip
        refine L_wv rfl rfl rfl rfl rfl rfl (V_move rfl rfl) ?_
        refine L_wv rfl rfl rfl rfl rfl rfl (V_lenS rfl rfl Try.underlying9 rfl) ?_
        refine L_wv rfl rfl rfl rfl rfl rfl (V_gtr rfl rfl rfl (by first | exact decide_eq_true (by omega) | exact decide_eq_false (by omega) | rfl)) ?_
        first | refine L_v rfl rfl rfl (V_pickT rfl rfl rfl) ?_ | refine L_v rfl rfl rfl (V_pickF rfl rfl rfl) ?_
        refine L_v rfl rfl rfl (V_move rfl rfl) ?_
        refine L_split 28 rfl (fun h4 => ?_) (fun h4 => ?_)
        ·
          first | (have h4 := of_decide_eq_true h4) | (have h4 := of_decide_eq_false h4) | skip
          refine L_skip rfl rfl rfl rfl rfl rfl rfl ?_
          refine L_skip rfl rfl rfl rfl rfl rfl rfl ?_
          refine L_skip rfl rfl rfl rfl rfl rfl rfl ?_
          refine L_skip rfl rfl rfl rfl rfl rfl rfl ?_
          refine L_skip rfl rfl rfl rfl rfl rfl rfl ?_
          first | refine L_v rfl rfl rfl (V_pickT rfl rfl rfl) ?_ | refine L_v rfl rfl rfl (V_pickF rfl rfl rfl) ?_
          refine L_v rfl rfl rfl (V_move rfl rfl) ?_
          refine L_skip rfl rfl rfl rfl rfl rfl rfl ?_
          refine L_skip rfl rfl rfl rfl rfl rfl rfl ?_
          refine L_skip rfl rfl rfl rfl rfl rfl rfl ?_
          refine L_skip rfl rfl rfl rfl rfl rfl rfl ?_
          refine L_skip rfl rfl rfl rfl rfl rfl rfl ?_
          refine L_skip rfl rfl rfl rfl rfl rfl rfl ?_
          first | refine L_v rfl rfl rfl (V_pickT rfl rfl rfl) ?_ | refine L_v rfl rfl rfl (V_pickF rfl rfl rfl) ?_
          refine L_v rfl rfl rfl (V_move rfl rfl) ?_
          refine L_skip rfl rfl rfl rfl rfl rfl rfl ?_
          refine L_skip rfl rfl rfl rfl rfl rfl rfl ?_
          refine L_skip rfl rfl rfl rfl rfl rfl rfl ?_
          refine L_skip rfl rfl rfl rfl rfl rfl rfl ?_
          refine L_skip rfl rfl rfl rfl rfl rfl rfl ?_
          refine L_skip rfl rfl rfl rfl rfl rfl rfl ?_
          first | refine L_v rfl rfl rfl (V_pickT rfl rfl rfl) ?_ | refine L_v rfl rfl rfl (V_pickF rfl rfl rfl) ?_
          refine L_v rfl rfl rfl (V_move rfl rfl) ?_
          refine L_skip rfl rfl rfl rfl rfl rfl rfl ?_
          refine L_skip rfl rfl rfl rfl rfl rfl rfl ?_
          refine L_skip rfl rfl rfl rfl rfl rfl rfl ?_
          refine L_skip rfl rfl rfl rfl rfl rfl rfl ?_
          refine L_skip rfl rfl rfl rfl rfl rfl rfl ?_
          first | refine L_v rfl rfl rfl (V_pickT rfl rfl rfl) ?_ | refine L_v rfl rfl rfl (V_pickF rfl rfl rfl) ?_
          refine L_v rfl rfl rfl (V_assign rfl rfl) ?_
          refine L_nil ?_
          change J _ _ _ _
          refine J_ret ?_
          change Kret _ _ _ Exit.ret _
          refine ret1 rfl rfl (RV_t rfl) ?_
          exact fun w' h => ⟨_, rfl, h.fr, fun hb => by cases hb⟩
        ·
          first | (have h4 := of_decide_eq_true h4) | (have h4 := of_decide_eq_false h4) | skip
          refine L_wv rfl rfl rfl rfl rfl rfl (V_fieldAddr rfl rfl Try.underlying47 rfl sz45c rfl) ?_
          refine L_wv rfl rfl rfl rfl rfl rfl (V_fieldAddr rfl rfl Try.underlying45 rfl sz9c rfl) ?_
          refine L_wv rfl rfl rfl rfl rfl rfl (V_load1 0 rfl rfl rfl Try.underlying9 rfl (by rfl)) ?_
          refine L_wv rfl rfl rfl rfl rfl rfl (V_lenS rfl rfl Try.underlying9 rfl) ?_
          refine L_wv rfl rfl rfl rfl rfl rfl (V_gtr rfl rfl rfl (by first | exact decide_eq_true (by omega) | exact decide_eq_false (by omega) | rfl)) ?_
          first | refine L_v rfl rfl rfl (V_pickT rfl rfl rfl) ?_ | refine L_v rfl rfl rfl (V_pickF rfl rfl rfl) ?_
          refine L_v rfl rfl rfl (V_move rfl rfl) ?_
          refine L_split 35 rfl (fun h5 => ?_) (fun h5 => ?_)
          ·
            first | (have h5 := of_decide_eq_true h5) | (have h5 := of_decide_eq_false h5) | skip
            refine L_skip rfl rfl rfl rfl rfl rfl rfl ?_
            refine L_skip rfl rfl rfl rfl rfl rfl rfl ?_
            refine L_skip rfl rfl rfl rfl rfl rfl rfl ?_
            refine L_skip rfl rfl rfl rfl rfl rfl rfl ?_
            refine L_skip rfl rfl rfl rfl rfl rfl rfl ?_
            refine L_skip rfl rfl rfl rfl rfl rfl rfl ?_
            first | refine L_v rfl rfl rfl (V_pickT rfl rfl rfl) ?_ | refine L_v rfl rfl rfl (V_pickF rfl rfl rfl) ?_
            refine L_v rfl rfl rfl (V_move rfl rfl) ?_
            refine L_skip rfl rfl rfl rfl rfl rfl rfl ?_
            refine L_skip rfl rfl rfl rfl rfl rfl rfl ?_
            refine L_skip rfl rfl rfl rfl rfl rfl rfl ?_
            refine L_skip rfl rfl rfl rfl rfl rfl rfl ?_
            refine L_skip rfl rfl rfl rfl rfl rfl rfl ?_
            refine L_skip rfl rfl rfl rfl rfl rfl rfl ?_
            first | refine L_v rfl rfl rfl (V_pickT rfl rfl rfl) ?_ | refine L_v rfl rfl rfl (V_pickF rfl rfl rfl) ?_
            refine L_v rfl rfl rfl (V_move rfl rfl) ?_
            refine L_skip rfl rfl rfl rfl rfl rfl rfl ?_
            refine L_skip rfl rfl rfl rfl rfl rfl rfl ?_
            refine L_skip rfl rfl rfl rfl rfl rfl rfl ?_
            refine L_skip rfl rfl rfl rfl rfl rfl rfl ?_
            refine L_skip rfl rfl rfl rfl rfl rfl rfl ?_
            first | refine L_v rfl rfl rfl (V_pickT rfl rfl rfl) ?_ | refine L_v rfl rfl rfl (V_pickF rfl rfl rfl) ?_
            refine L_v rfl rfl rfl (V_assign rfl rfl) ?_
            refine L_nil ?_
            change J _ _ _ _
            refine J_ret ?_
            change Kret _ _ _ Exit.ret _
            refine ret1 rfl rfl (RV_t rfl) ?_
            exact fun w' h => ⟨_, rfl, h.fr, fun hb => by cases hb⟩
          ·
            first | (have h5 := of_decide_eq_true h5) | (have h5 := of_decide_eq_false h5) | skip
            refine L_wv rfl rfl rfl rfl rfl rfl (V_fieldAddr rfl rfl Try.underlying47 rfl sz45c rfl) ?_
            refine L_wv rfl rfl rfl rfl rfl rfl (V_fieldAddr rfl rfl Try.underlying45 rfl sz31c rfl) ?_
            refine L_wv rfl rfl rfl rfl rfl rfl (V_fieldAddr rfl rfl Try.underlying31 rfl sz9c rfl) ?_
            refine L_wv rfl rfl rfl rfl rfl rfl (V_load1 0 rfl rfl rfl Try.underlying9 rfl (by rfl)) ?_
            refine L_wv rfl rfl rfl rfl rfl rfl (V_lenS rfl rfl Try.underlying9 rfl) ?_
            refine L_wv rfl rfl rfl rfl rfl rfl (V_gtr rfl rfl rfl (by first | exact decide_eq_true (by omega) | exact decide_eq_false (by omega) | rfl)) ?_
            first | refine L_v rfl rfl rfl (V_pickT rfl rfl rfl) ?_ | refine L_v rfl rfl rfl (V_pickF rfl rfl rfl) ?_
            refine L_v rfl rfl rfl (V_move rfl rfl) ?_
            refine L_split 43 rfl (fun h6 => ?_) (fun h6 => ?_)
            ·
              first | (have h6 := of_decide_eq_true h6) | (have h6 := of_decide_eq_false h6) | skip
              refine L_skip rfl rfl rfl rfl rfl rfl rfl ?_
              refine L_skip rfl rfl rfl rfl rfl rfl rfl ?_
              refine L_skip rfl rfl rfl rfl rfl rfl rfl ?_
              refine L_skip rfl rfl rfl rfl rfl rfl rfl ?_
              refine L_skip rfl rfl rfl rfl rfl rfl rfl ?_
              refine L_skip rfl rfl rfl rfl rfl rfl rfl ?_
              first | refine L_v rfl rfl rfl (V_pickT rfl rfl rfl) ?_ | refine L_v rfl rfl rfl (V_pickF rfl rfl rfl) ?_
              refine L_v rfl rfl rfl (V_move rfl rfl) ?_
              refine L_skip rfl rfl rfl rfl rfl rfl rfl ?_
              refine L_skip rfl rfl rfl rfl rfl rfl rfl ?_
              refine L_skip rfl rfl rfl rfl rfl rfl rfl ?_
              refine L_skip rfl rfl rfl rfl rfl rfl rfl ?_
              refine L_skip rfl rfl rfl rfl rfl rfl rfl ?_
              first | refine L_v rfl rfl rfl (V_pickT rfl rfl rfl) ?_ | refine L_v rfl rfl rfl (V_pickF rfl rfl rfl) ?_
              refine L_v rfl rfl rfl (V_assign rfl rfl) ?_
              refine L_nil ?_
              change J _ _ _ _
              refine J_ret ?_
              change Kret _ _ _ Exit.ret _
              refine ret1 rfl rfl (RV_t rfl) ?_
              exact fun w' h => ⟨_, rfl, h.fr, fun hb => by cases hb⟩
            ·
              first | (have h6 := of_decide_eq_true h6) | (have h6 := of_decide_eq_false h6) | skip
              refine L_wv rfl rfl rfl rfl rfl rfl (V_fieldAddr rfl rfl Try.underlying47 rfl sz45c rfl) ?_
              refine L_wv rfl rfl rfl rfl rfl rfl (V_fieldAddr rfl rfl Try.underlying45 rfl sz31c rfl) ?_
              refine L_wv rfl rfl rfl rfl rfl rfl (V_fieldAddr rfl rfl Try.underlying31 rfl sz9c rfl) ?_
              refine L_wv rfl rfl rfl rfl rfl rfl (V_load1 0 rfl rfl rfl Try.underlying9 rfl (by rfl)) ?_
              refine L_wv rfl rfl rfl rfl rfl rfl (V_lenS rfl rfl Try.underlying9 rfl) ?_
              refine L_wv rfl rfl rfl rfl rfl rfl (V_gtr rfl rfl rfl (by first | exact decide_eq_true (by omega) | exact decide_eq_false (by omega) | rfl)) ?_
              first | refine L_v rfl rfl rfl (V_pickT rfl rfl rfl) ?_ | refine L_v rfl rfl rfl (V_pickF rfl rfl rfl) ?_
              refine L_v rfl rfl rfl (V_move rfl rfl) ?_
              refine L_split 51 rfl (fun h7 => ?_) (fun h7 => ?_)
              ·
                first | (have h7 := of_decide_eq_true h7) | (have h7 := of_decide_eq_false h7) | skip
                refine L_skip rfl rfl rfl rfl rfl rfl rfl ?_
                refine L_skip rfl rfl rfl rfl rfl rfl rfl ?_
                refine L_skip rfl rfl rfl rfl rfl rfl rfl ?_
                refine L_skip rfl rfl rfl rfl rfl rfl rfl ?_
                refine L_skip rfl rfl rfl rfl rfl rfl rfl ?_
                first | refine L_v rfl rfl rfl (V_pickT rfl rfl rfl) ?_ | refine L_v rfl rfl rfl (V_pickF rfl rfl rfl) ?_
                refine L_v rfl rfl rfl (V_assign rfl rfl) ?_
                refine L_nil ?_
                change J _ _ _ _
                refine J_ret ?_
                change Kret _ _ _ Exit.ret _
                refine ret1 rfl rfl (RV_t rfl) ?_
                exact fun w' h => ⟨_, rfl, h.fr, fun hb => by cases hb⟩
              ·
                first | (have h7 := of_decide_eq_true h7) | (have h7 := of_decide_eq_false h7) | skip
                refine L_wv rfl rfl rfl rfl rfl rfl (V_fieldAddr rfl rfl Try.underlying45 rfl sz31c rfl) ?_
                refine L_wv rfl rfl rfl rfl rfl rfl (V_fieldAddr rfl rfl Try.underlying31 rfl sz9c rfl) ?_
                refine L_wv rfl rfl rfl rfl rfl rfl (V_load1 1 rfl rfl rfl Try.underlying9 rfl (by rfl)) ?_
                refine L_wv rfl rfl rfl rfl rfl rfl (V_lenS rfl rfl Try.underlying9 rfl) ?_
                refine L_wv rfl rfl rfl rfl rfl rfl (V_gtr rfl rfl rfl (by first | exact decide_eq_true (by omega) | exact decide_eq_false (by omega) | rfl)) ?_
                first | refine L_v rfl rfl rfl (V_pickT rfl rfl rfl) ?_ | refine L_v rfl rfl rfl (V_pickF rfl rfl rfl) ?_
                refine L_v rfl rfl rfl (V_assign rfl rfl) ?_
                refine L_nil ?_
                change J _ _ _ _
                refine J_ret ?_
                change Kret _ _ _ Exit.ret _
                refine ret1 rfl rfl (RV_t rfl) ?_
                exact fun w' h => ⟨_, rfl, h.fr, fun _ => ⟨hq1 rfl, hq2 rfl⟩⟩

set_option maxHeartbeats 4000000 in
theorem calls_t (w : World) :
    Calls Try.prog 10 #[] w fun e w' => e = .returned (.bool true) ∧ Fr [] w w' := by
  refine calls_of (args := []) ([]) ([]) ([]) Try.func10 rfl rfl (okW0 _ _ _ _) ?_
  refine J_seq ?_
  refine J_region ?_
  refine L_v rfl rfl rfl (V_assign rfl rfl) ?_
  refine L_nil ?_
  change J _ _ _ _
  refine J_seq ?_
  refine J_region ?_
  refine L_callV rfl rfl rfl rfl rfl rfl tx30c (fun w1 hw => new_1 w1) ?_
  refine L_v rfl rfl rfl (V_move rfl rfl) ?_
  refine L_v rfl rfl rfl (V_extract rfl rfl rfl) ?_
  refine L_v rfl rfl rfl (V_extract rfl rfl rfl) ?_
  refine L_alloc rfl rfl rfl rfl z47c (fun b0 => ?_)
  refine L_storeW 0 rfl rfl rfl rfl rfl rfl (szd sz47c (by kernel_rfl)) (all_one (by kernel_rfl)) (by kernel_rfl) ?_
  refine L_v rfl rfl rfl (V_assign rfl rfl) ?_
  refine L_nil ?_
  change J _ _ _ _
  refine J_seq ?_
  refine J_mid (X := Nat × Nat) (fun x => { env := [(1, .pointer (some ⟨x.1, 0, none⟩)), (3, .pointer (some ⟨x.2, 0, none⟩)), (2, .int .i64 0), (4, .int .i64 0)], mem := [(x.1, row 47 (ctM c2 m50)), (x.2, row 45 (msM m1 m50))], facts := [] }) ?_ ?_
  ·
    refine J_regionO (.three 0 (.two 1 (.two 2 (.pure 3 (.pure 4 (.pure 5 (.pure 6 (.one 7 (.one 8 (.one 9 (.pure 10 (.nil))))))))) 7 (.one 2 (.pure 3 (.pure 4 (.pure 5 (.pure 6 (.one 8 (.one 9 (.pure 10 (.nil)))))))))) 7 (.one 1 (.one 2 (.pure 3 (.pure 4 (.pure 5 (.pure 6 (.one 8 (.one 9 (.pure 10 (.nil))))))))))) 1 (.two 0 (.two 2 (.pure 3 (.pure 4 (.pure 5 (.pure 6 (.one 7 (.one 8 (.one 9 (.pure 10 (.nil))))))))) 7 (.one 2 (.pure 3 (.pure 4 (.pure 5 (.pure 6 (.one 8 (.one 9 (.pure 10 (.nil)))))))))) 7 (.one 0 (.one 2 (.pure 3 (.pure 4 (.pure 5 (.pure 6 (.one 8 (.one 9 (.pure 10 (.nil))))))))))) 7 (.two 0 (.one 1 (.one 2 (.pure 3 (.pure 4 (.pure 5 (.pure 6 (.one 8 (.one 9 (.pure 10 (.nil)))))))))) 1 (.one 0 (.one 2 (.pure 3 (.pure 4 (.pure 5 (.pure 6 (.one 8 (.one 9 (.pure 10 (.nil)))))))))))) ([]) _ (Pk.of_sub (List.nil_sublist _)) (fun f hf => hf) rfl rfl (by kernel_rfl) ?_
    refine LO_three ?_ ?_ ?_
    ·
      refine LO_s rfl rfl rfl (S_v rfl rfl (V_loadT 0 (vs := ctM c1 m50) rfl rfl rfl Try.underlying47 rfl sz47c (by kernel_rfl) (by kernel_rfl)) ⟨(Pk.of_sub (List.nil_sublist _)), (fun f hf => hf), ?_⟩)
      refine LO_both ?_ ?_
      ·
        refine LO_callV rfl rfl rfl rfl rfl rfl rfl rfl tx31c (fun w1 hw => put_w w1) (Pk.of_sub (List.nil_sublist _)) (fun f hf => hf) ?_
        refine LO_both ?_ ?_
        ·
          refine LO_callV rfl rfl rfl rfl rfl rfl rfl rfl tx13c (fun w1 hw => call_1 w1) (Pk.of_sub (List.nil_sublist _)) (fun f hf => hf) ?_
          refine LO_v rfl rfl rfl rfl (V_move rfl rfl) ?_
          refine LO_v rfl rfl rfl rfl (V_extract rfl rfl rfl) ?_
          refine LO_v rfl rfl rfl rfl (V_extract rfl rfl rfl) ?_
          refine LO_v rfl rfl rfl rfl (V_extract rfl rfl rfl) ?_
          refine LO_s rfl rfl rfl (S_alloc rfl rfl rfl z45c (fun b1 => ⟨(Pk.of_sub (List.nil_sublist _)), (fun f hf => hf), ?_⟩))
          refine LO_s rfl rfl rfl (S_storeW 0 rfl rfl rfl rfl rfl (szd sz47c (by kernel_rfl)) (all_one (by kernel_rfl)) (by kernel_rfl) ⟨(Pk.of_sub (List.nil_sublist _)), (fun f hf => hf), ?_⟩)
          refine LO_s rfl rfl rfl (S_storeW 1 rfl rfl rfl rfl rfl (szd sz45c (by kernel_rfl)) (all_one (by kernel_rfl)) (by kernel_rfl) ⟨(Pk.of_sub (List.nil_sublist _)), (fun f hf => hf), ?_⟩)
          refine LO_v rfl rfl rfl rfl (V_assign rfl rfl) ?_
          refine LO_nil ?_
          exact ⟨(b0, b1), ⟨rfl, rfl, rfl, rfl, trivial⟩, (List.Sublist.cons_cons _ (List.Sublist.cons_cons _ (List.nil_sublist _))), fun f hf => hf, rfl⟩
        ·
          refine LO_s rfl rfl rfl (S_alloc rfl rfl rfl z45c (fun b1 => ⟨(Pk.of_sub (List.nil_sublist _)), (fun f hf => hf), ?_⟩))
          refine LO_callV rfl rfl rfl rfl rfl rfl rfl rfl tx13c (fun w1 hw => call_1 w1) (Pk.of_sub (List.nil_sublist _)) (fun f hf => hf) ?_
          refine LO_v rfl rfl rfl rfl (V_move rfl rfl) ?_
          refine LO_v rfl rfl rfl rfl (V_extract rfl rfl rfl) ?_
          refine LO_v rfl rfl rfl rfl (V_extract rfl rfl rfl) ?_
          refine LO_v rfl rfl rfl rfl (V_extract rfl rfl rfl) ?_
          refine LO_s rfl rfl rfl (S_storeW 0 rfl rfl rfl rfl rfl (szd sz47c (by kernel_rfl)) (all_one (by kernel_rfl)) (by kernel_rfl) ⟨(Pk.of_sub (List.nil_sublist _)), (fun f hf => hf), ?_⟩)
          refine LO_s rfl rfl rfl (S_storeW 1 rfl rfl rfl rfl rfl (szd sz45c (by kernel_rfl)) (all_one (by kernel_rfl)) (by kernel_rfl) ⟨(Pk.of_sub (List.nil_sublist _)), (fun f hf => hf), ?_⟩)
          refine LO_v rfl rfl rfl rfl (V_assign rfl rfl) ?_
          refine LO_nil ?_
          exact ⟨(b0, b1), ⟨rfl, rfl, rfl, rfl, trivial⟩, (List.Sublist.cons_cons _ (List.Sublist.cons_cons _ (List.nil_sublist _))), fun f hf => hf, rfl⟩
      ·
        refine LO_s rfl rfl rfl (S_alloc rfl rfl rfl z45c (fun b1 => ⟨(Pk.of_sub (List.nil_sublist _)), (fun f hf => hf), ?_⟩))
        refine LO_callV rfl rfl rfl rfl rfl rfl rfl rfl tx31c (fun w1 hw => put_w w1) (Pk.of_sub (List.nil_sublist _)) (fun f hf => hf) ?_
        refine LO_callV rfl rfl rfl rfl rfl rfl rfl rfl tx13c (fun w1 hw => call_1 w1) (Pk.of_sub (List.nil_sublist _)) (fun f hf => hf) ?_
        refine LO_v rfl rfl rfl rfl (V_move rfl rfl) ?_
        refine LO_v rfl rfl rfl rfl (V_extract rfl rfl rfl) ?_
        refine LO_v rfl rfl rfl rfl (V_extract rfl rfl rfl) ?_
        refine LO_v rfl rfl rfl rfl (V_extract rfl rfl rfl) ?_
        refine LO_s rfl rfl rfl (S_storeW 0 rfl rfl rfl rfl rfl (szd sz47c (by kernel_rfl)) (all_one (by kernel_rfl)) (by kernel_rfl) ⟨(Pk.of_sub (List.nil_sublist _)), (fun f hf => hf), ?_⟩)
        refine LO_s rfl rfl rfl (S_storeW 1 rfl rfl rfl rfl rfl (szd sz45c (by kernel_rfl)) (all_one (by kernel_rfl)) (by kernel_rfl) ⟨(Pk.of_sub (List.nil_sublist _)), (fun f hf => hf), ?_⟩)
        refine LO_v rfl rfl rfl rfl (V_assign rfl rfl) ?_
        refine LO_nil ?_
        exact ⟨(b0, b1), ⟨rfl, rfl, rfl, rfl, trivial⟩, (List.Sublist.cons_cons _ (List.Sublist.cons_cons _ (List.nil_sublist _))), fun f hf => hf, rfl⟩
    ·
      refine LO_callV rfl rfl rfl rfl rfl rfl rfl rfl tx31c (fun w1 hw => put_w w1) (Pk.of_sub (List.nil_sublist _)) (fun f hf => hf) ?_
      refine LO_both ?_ ?_
      ·
        refine LO_s rfl rfl rfl (S_v rfl rfl (V_loadT 0 (vs := ctM c1 m50) rfl rfl rfl Try.underlying47 rfl sz47c (by kernel_rfl) (by kernel_rfl)) ⟨(Pk.of_sub (List.nil_sublist _)), (fun f hf => hf), ?_⟩)
        refine LO_both ?_ ?_
        ·
          refine LO_callV rfl rfl rfl rfl rfl rfl rfl rfl tx13c (fun w1 hw => call_1 w1) (Pk.of_sub (List.nil_sublist _)) (fun f hf => hf) ?_
          refine LO_v rfl rfl rfl rfl (V_move rfl rfl) ?_
          refine LO_v rfl rfl rfl rfl (V_extract rfl rfl rfl) ?_
          refine LO_v rfl rfl rfl rfl (V_extract rfl rfl rfl) ?_
          refine LO_v rfl rfl rfl rfl (V_extract rfl rfl rfl) ?_
          refine LO_s rfl rfl rfl (S_alloc rfl rfl rfl z45c (fun b1 => ⟨(Pk.of_sub (List.nil_sublist _)), (fun f hf => hf), ?_⟩))
          refine LO_s rfl rfl rfl (S_storeW 0 rfl rfl rfl rfl rfl (szd sz47c (by kernel_rfl)) (all_one (by kernel_rfl)) (by kernel_rfl) ⟨(Pk.of_sub (List.nil_sublist _)), (fun f hf => hf), ?_⟩)
          refine LO_s rfl rfl rfl (S_storeW 1 rfl rfl rfl rfl rfl (szd sz45c (by kernel_rfl)) (all_one (by kernel_rfl)) (by kernel_rfl) ⟨(Pk.of_sub (List.nil_sublist _)), (fun f hf => hf), ?_⟩)
          refine LO_v rfl rfl rfl rfl (V_assign rfl rfl) ?_
          refine LO_nil ?_
          exact ⟨(b0, b1), ⟨rfl, rfl, rfl, rfl, trivial⟩, (List.Sublist.cons_cons _ (List.Sublist.cons_cons _ (List.nil_sublist _))), fun f hf => hf, rfl⟩
        ·
          refine LO_s rfl rfl rfl (S_alloc rfl rfl rfl z45c (fun b1 => ⟨(Pk.of_sub (List.nil_sublist _)), (fun f hf => hf), ?_⟩))
          refine LO_callV rfl rfl rfl rfl rfl rfl rfl rfl tx13c (fun w1 hw => call_1 w1) (Pk.of_sub (List.nil_sublist _)) (fun f hf => hf) ?_
          refine LO_v rfl rfl rfl rfl (V_move rfl rfl) ?_
          refine LO_v rfl rfl rfl rfl (V_extract rfl rfl rfl) ?_
          refine LO_v rfl rfl rfl rfl (V_extract rfl rfl rfl) ?_
          refine LO_v rfl rfl rfl rfl (V_extract rfl rfl rfl) ?_
          refine LO_s rfl rfl rfl (S_storeW 0 rfl rfl rfl rfl rfl (szd sz47c (by kernel_rfl)) (all_one (by kernel_rfl)) (by kernel_rfl) ⟨(Pk.of_sub (List.nil_sublist _)), (fun f hf => hf), ?_⟩)
          refine LO_s rfl rfl rfl (S_storeW 1 rfl rfl rfl rfl rfl (szd sz45c (by kernel_rfl)) (all_one (by kernel_rfl)) (by kernel_rfl) ⟨(Pk.of_sub (List.nil_sublist _)), (fun f hf => hf), ?_⟩)
          refine LO_v rfl rfl rfl rfl (V_assign rfl rfl) ?_
          refine LO_nil ?_
          exact ⟨(b0, b1), ⟨rfl, rfl, rfl, rfl, trivial⟩, (List.Sublist.cons_cons _ (List.Sublist.cons_cons _ (List.nil_sublist _))), fun f hf => hf, rfl⟩
      ·
        refine LO_s rfl rfl rfl (S_alloc rfl rfl rfl z45c (fun b1 => ⟨(Pk.of_sub (List.nil_sublist _)), (fun f hf => hf), ?_⟩))
        refine LO_s rfl rfl rfl (S_v rfl rfl (V_loadT 0 (vs := ctM c1 m50) rfl rfl rfl Try.underlying47 rfl sz47c (by kernel_rfl) (by kernel_rfl)) ⟨(Pk.of_sub (List.nil_sublist _)), (fun f hf => hf), ?_⟩)
        refine LO_callV rfl rfl rfl rfl rfl rfl rfl rfl tx13c (fun w1 hw => call_1 w1) (Pk.of_sub (List.nil_sublist _)) (fun f hf => hf) ?_
        refine LO_v rfl rfl rfl rfl (V_move rfl rfl) ?_
        refine LO_v rfl rfl rfl rfl (V_extract rfl rfl rfl) ?_
        refine LO_v rfl rfl rfl rfl (V_extract rfl rfl rfl) ?_
        refine LO_v rfl rfl rfl rfl (V_extract rfl rfl rfl) ?_
        refine LO_s rfl rfl rfl (S_storeW 0 rfl rfl rfl rfl rfl (szd sz47c (by kernel_rfl)) (all_one (by kernel_rfl)) (by kernel_rfl) ⟨(Pk.of_sub (List.nil_sublist _)), (fun f hf => hf), ?_⟩)
        refine LO_s rfl rfl rfl (S_storeW 1 rfl rfl rfl rfl rfl (szd sz45c (by kernel_rfl)) (all_one (by kernel_rfl)) (by kernel_rfl) ⟨(Pk.of_sub (List.nil_sublist _)), (fun f hf => hf), ?_⟩)
        refine LO_v rfl rfl rfl rfl (V_assign rfl rfl) ?_
        refine LO_nil ?_
        exact ⟨(b0, b1), ⟨rfl, rfl, rfl, rfl, trivial⟩, (List.Sublist.cons_cons _ (List.Sublist.cons_cons _ (List.nil_sublist _))), fun f hf => hf, rfl⟩
    ·
      refine LO_s rfl rfl rfl (S_alloc rfl rfl rfl z45c (fun b1 => ⟨(Pk.of_sub (List.nil_sublist _)), (fun f hf => hf), ?_⟩))
      refine LO_both ?_ ?_
      ·
        refine LO_s rfl rfl rfl (S_v rfl rfl (V_loadT 0 (vs := ctM c1 m50) rfl rfl rfl Try.underlying47 rfl sz47c (by kernel_rfl) (by kernel_rfl)) ⟨(Pk.of_sub (List.nil_sublist _)), (fun f hf => hf), ?_⟩)
        refine LO_callV rfl rfl rfl rfl rfl rfl rfl rfl tx31c (fun w1 hw => put_w w1) (Pk.of_sub (List.nil_sublist _)) (fun f hf => hf) ?_
        refine LO_callV rfl rfl rfl rfl rfl rfl rfl rfl tx13c (fun w1 hw => call_1 w1) (Pk.of_sub (List.nil_sublist _)) (fun f hf => hf) ?_
        refine LO_v rfl rfl rfl rfl (V_move rfl rfl) ?_
        refine LO_v rfl rfl rfl rfl (V_extract rfl rfl rfl) ?_
        refine LO_v rfl rfl rfl rfl (V_extract rfl rfl rfl) ?_
        refine LO_v rfl rfl rfl rfl (V_extract rfl rfl rfl) ?_
        refine LO_s rfl rfl rfl (S_storeW 0 rfl rfl rfl rfl rfl (szd sz47c (by kernel_rfl)) (all_one (by kernel_rfl)) (by kernel_rfl) ⟨(Pk.of_sub (List.nil_sublist _)), (fun f hf => hf), ?_⟩)
        refine LO_s rfl rfl rfl (S_storeW 1 rfl rfl rfl rfl rfl (szd sz45c (by kernel_rfl)) (all_one (by kernel_rfl)) (by kernel_rfl) ⟨(Pk.of_sub (List.nil_sublist _)), (fun f hf => hf), ?_⟩)
        refine LO_v rfl rfl rfl rfl (V_assign rfl rfl) ?_
        refine LO_nil ?_
        exact ⟨(b0, b1), ⟨rfl, rfl, rfl, rfl, trivial⟩, (List.Sublist.cons_cons _ (List.Sublist.cons_cons _ (List.nil_sublist _))), fun f hf => hf, rfl⟩
      ·
        refine LO_callV rfl rfl rfl rfl rfl rfl rfl rfl tx31c (fun w1 hw => put_w w1) (Pk.of_sub (List.nil_sublist _)) (fun f hf => hf) ?_
        refine LO_s rfl rfl rfl (S_v rfl rfl (V_loadT 0 (vs := ctM c1 m50) rfl rfl rfl Try.underlying47 rfl sz47c (by kernel_rfl) (by kernel_rfl)) ⟨(Pk.of_sub (List.nil_sublist _)), (fun f hf => hf), ?_⟩)
        refine LO_callV rfl rfl rfl rfl rfl rfl rfl rfl tx13c (fun w1 hw => call_1 w1) (Pk.of_sub (List.nil_sublist _)) (fun f hf => hf) ?_
        refine LO_v rfl rfl rfl rfl (V_move rfl rfl) ?_
        refine LO_v rfl rfl rfl rfl (V_extract rfl rfl rfl) ?_
        refine LO_v rfl rfl rfl rfl (V_extract rfl rfl rfl) ?_
        refine LO_v rfl rfl rfl rfl (V_extract rfl rfl rfl) ?_
        refine LO_s rfl rfl rfl (S_storeW 0 rfl rfl rfl rfl rfl (szd sz47c (by kernel_rfl)) (all_one (by kernel_rfl)) (by kernel_rfl) ⟨(Pk.of_sub (List.nil_sublist _)), (fun f hf => hf), ?_⟩)
        refine LO_s rfl rfl rfl (S_storeW 1 rfl rfl rfl rfl rfl (szd sz45c (by kernel_rfl)) (all_one (by kernel_rfl)) (by kernel_rfl) ⟨(Pk.of_sub (List.nil_sublist _)), (fun f hf => hf), ?_⟩)
        refine LO_v rfl rfl rfl rfl (V_assign rfl rfl) ?_
        refine LO_nil ?_
        exact ⟨(b0, b1), ⟨rfl, rfl, rfl, rfl, trivial⟩, (List.Sublist.cons_cons _ (List.Sublist.cons_cons _ (List.nil_sublist _))), fun f hf => hf, rfl⟩
  rintro ⟨b0, b1⟩
  change J _ _ _ _
  refine J_seq ?_
  refine J_mid (X := Nat × Nat) (fun x => { env := [(1, .pointer (some ⟨x.1, 0, none⟩)), (3, .pointer (some ⟨x.2, 0, none⟩)), (2, .int .i64 0), (4, .int .i64 0), (7, .int .i64 181)], mem := [(x.1, row 47 (ctM c2 m50)), (x.2, row 45 (msM m1 m50))], facts := [] }) ?_ ?_
  ·
    refine J_regionO (.pure 0 (.three 1 (.three 2 (.pure 3 (.pure 4 (.pure 5 (.pure 6 (.two 7 (.one 8 (.one 9 (.one 10 (.pure 11 (.nil))))) 8 (.one 7 (.one 9 (.one 10 (.pure 11 (.nil)))))))))) 7 (.two 2 (.pure 3 (.pure 4 (.pure 5 (.pure 6 (.one 8 (.one 9 (.one 10 (.pure 11 (.nil))))))))) 8 (.one 2 (.pure 3 (.pure 4 (.pure 5 (.pure 6 (.one 9 (.one 10 (.pure 11 (.nil)))))))))) 8 (.two 2 (.pure 3 (.pure 4 (.pure 5 (.pure 6 (.one 7 (.one 9 (.one 10 (.pure 11 (.nil))))))))) 7 (.one 2 (.pure 3 (.pure 4 (.pure 5 (.pure 6 (.one 9 (.one 10 (.pure 11 (.nil))))))))))) 7 (.two 1 (.two 2 (.pure 3 (.pure 4 (.pure 5 (.pure 6 (.one 8 (.one 9 (.one 10 (.pure 11 (.nil))))))))) 8 (.one 2 (.pure 3 (.pure 4 (.pure 5 (.pure 6 (.one 9 (.one 10 (.pure 11 (.nil)))))))))) 8 (.one 1 (.one 2 (.pure 3 (.pure 4 (.pure 5 (.pure 6 (.one 9 (.one 10 (.pure 11 (.nil))))))))))) 8 (.two 1 (.two 2 (.pure 3 (.pure 4 (.pure 5 (.pure 6 (.one 7 (.one 9 (.one 10 (.pure 11 (.nil))))))))) 7 (.one 2 (.pure 3 (.pure 4 (.pure 5 (.pure 6 (.one 9 (.one 10 (.pure 11 (.nil)))))))))) 7 (.one 1 (.one 2 (.pure 3 (.pure 4 (.pure 5 (.pure 6 (.one 9 (.one 10 (.pure 11 (.nil))))))))))))) ([(b0, row 47 (ctM c2 m50)), (b1, row 45 (msM m1 m50))]) _ (Pk.of_sub (List.Sublist.cons_cons _ (List.Sublist.cons_cons _ (List.nil_sublist _)))) (fun f hf => hf) rfl rfl (by kernel_rfl) ?_
    refine LO_v rfl rfl rfl rfl (V_loadT 0 (vs := ctM c2 m50) rfl rfl rfl Try.underlying47 rfl sz47c (by kernel_rfl) (by kernel_rfl)) ?_
    refine LO_three ?_ ?_ ?_
    ·
      refine LO_callV rfl rfl rfl rfl rfl rfl rfl rfl tx31c (fun w1 hw => put_w w1) (Pk.of_sub (List.Sublist.cons_cons _ (List.Sublist.cons_cons _ (List.nil_sublist _)))) (fun f hf => hf) ?_
      refine LO_three ?_ ?_ ?_
      ·
        refine LO_callV rfl rfl rfl rfl rfl rfl rfl rfl tx13c (fun w1 hw => call_2 w1) (Pk.of_sub (List.Sublist.cons_cons _ (List.Sublist.cons_cons _ (List.nil_sublist _)))) (fun f hf => hf) ?_
        refine LO_v rfl rfl rfl rfl (V_move rfl rfl) ?_
        refine LO_v rfl rfl rfl rfl (V_extract rfl rfl rfl) ?_
        refine LO_v rfl rfl rfl rfl (V_extract rfl rfl rfl) ?_
        refine LO_v rfl rfl rfl rfl (V_extract rfl rfl rfl) ?_
        refine LO_both ?_ ?_
        ·
          refine LO_s rfl rfl rfl (S_alloc rfl rfl rfl z47c (fun b2 => ⟨(Pk.of_sub (List.Sublist.cons_cons _ (List.Sublist.cons_cons _ (List.nil_sublist _)))), (fun f hf => hf), ?_⟩))
          refine LO_s rfl rfl rfl (S_alloc rfl rfl rfl z45c (fun b3 => ⟨(Pk.of_sub (List.Sublist.cons_cons _ (List.Sublist.cons_cons _ (List.nil_sublist _)))), (fun f hf => hf), ?_⟩))
          refine LO_s rfl rfl rfl (S_storeW 2 rfl rfl rfl rfl rfl (szd sz47c (by kernel_rfl)) (all_one (by kernel_rfl)) (by kernel_rfl) ⟨(Pk.of_sub (List.Sublist.cons_cons _ (List.Sublist.cons_cons _ (List.nil_sublist _)))), (fun f hf => hf), ?_⟩)
          refine LO_s rfl rfl rfl (S_storeW 3 rfl rfl rfl rfl rfl (szd sz45c (by kernel_rfl)) (all_one (by kernel_rfl)) (by kernel_rfl) ⟨(Pk.of_sub (List.Sublist.cons_cons _ (List.Sublist.cons_cons _ (List.nil_sublist _)))), (fun f hf => hf), ?_⟩)
          refine LO_v rfl rfl rfl rfl (V_assign rfl rfl) ?_
          refine LO_nil ?_
          exact ⟨(b0, b1), ⟨rfl, rfl, rfl, rfl, rfl, trivial⟩, (List.Sublist.cons_cons _ (List.Sublist.cons_cons _ (List.nil_sublist _))), fun f hf => hf, rfl⟩
        ·
          refine LO_s rfl rfl rfl (S_alloc rfl rfl rfl z45c (fun b2 => ⟨(Pk.of_sub (List.Sublist.cons_cons _ (List.Sublist.cons_cons _ (List.nil_sublist _)))), (fun f hf => hf), ?_⟩))
          refine LO_s rfl rfl rfl (S_alloc rfl rfl rfl z47c (fun b3 => ⟨(Pk.of_sub (List.Sublist.cons_cons _ (List.Sublist.cons_cons _ (List.nil_sublist _)))), (fun f hf => hf), ?_⟩))
          refine LO_s rfl rfl rfl (S_storeW 3 rfl rfl rfl rfl rfl (szd sz47c (by kernel_rfl)) (all_one (by kernel_rfl)) (by kernel_rfl) ⟨(Pk.of_sub (List.Sublist.cons_cons _ (List.Sublist.cons_cons _ (List.nil_sublist _)))), (fun f hf => hf), ?_⟩)
          refine LO_s rfl rfl rfl (S_storeW 2 rfl rfl rfl rfl rfl (szd sz45c (by kernel_rfl)) (all_one (by kernel_rfl)) (by kernel_rfl) ⟨(Pk.of_sub (List.Sublist.cons_cons _ (List.Sublist.cons_cons _ (List.nil_sublist _)))), (fun f hf => hf), ?_⟩)
          refine LO_v rfl rfl rfl rfl (V_assign rfl rfl) ?_
          refine LO_nil ?_
          exact ⟨(b0, b1), ⟨rfl, rfl, rfl, rfl, rfl, trivial⟩, (List.Sublist.cons_cons _ (List.Sublist.cons_cons _ (List.nil_sublist _))), fun f hf => hf, rfl⟩
      ·
        refine LO_s rfl rfl rfl (S_alloc rfl rfl rfl z47c (fun b2 => ⟨(Pk.of_sub (List.Sublist.cons_cons _ (List.Sublist.cons_cons _ (List.nil_sublist _)))), (fun f hf => hf), ?_⟩))
        refine LO_both ?_ ?_
        ·
          refine LO_callV rfl rfl rfl rfl rfl rfl rfl rfl tx13c (fun w1 hw => call_2 w1) (Pk.of_sub (List.Sublist.cons_cons _ (List.Sublist.cons_cons _ (List.nil_sublist _)))) (fun f hf => hf) ?_
          refine LO_v rfl rfl rfl rfl (V_move rfl rfl) ?_
          refine LO_v rfl rfl rfl rfl (V_extract rfl rfl rfl) ?_
          refine LO_v rfl rfl rfl rfl (V_extract rfl rfl rfl) ?_
          refine LO_v rfl rfl rfl rfl (V_extract rfl rfl rfl) ?_
          refine LO_s rfl rfl rfl (S_alloc rfl rfl rfl z45c (fun b3 => ⟨(Pk.of_sub (List.Sublist.cons_cons _ (List.Sublist.cons_cons _ (List.nil_sublist _)))), (fun f hf => hf), ?_⟩))
          refine LO_s rfl rfl rfl (S_storeW 2 rfl rfl rfl rfl rfl (szd sz47c (by kernel_rfl)) (all_one (by kernel_rfl)) (by kernel_rfl) ⟨(Pk.of_sub (List.Sublist.cons_cons _ (List.Sublist.cons_cons _ (List.nil_sublist _)))), (fun f hf => hf), ?_⟩)
          refine LO_s rfl rfl rfl (S_storeW 3 rfl rfl rfl rfl rfl (szd sz45c (by kernel_rfl)) (all_one (by kernel_rfl)) (by kernel_rfl) ⟨(Pk.of_sub (List.Sublist.cons_cons _ (List.Sublist.cons_cons _ (List.nil_sublist _)))), (fun f hf => hf), ?_⟩)
          refine LO_v rfl rfl rfl rfl (V_assign rfl rfl) ?_
          refine LO_nil ?_
          exact ⟨(b0, b1), ⟨rfl, rfl, rfl, rfl, rfl, trivial⟩, (List.Sublist.cons_cons _ (List.Sublist.cons_cons _ (List.nil_sublist _))), fun f hf => hf, rfl⟩
        ·
          refine LO_s rfl rfl rfl (S_alloc rfl rfl rfl z45c (fun b3 => ⟨(Pk.of_sub (List.Sublist.cons_cons _ (List.Sublist.cons_cons _ (List.nil_sublist _)))), (fun f hf => hf), ?_⟩))
          refine LO_callV rfl rfl rfl rfl rfl rfl rfl rfl tx13c (fun w1 hw => call_2 w1) (Pk.of_sub (List.Sublist.cons_cons _ (List.Sublist.cons_cons _ (List.nil_sublist _)))) (fun f hf => hf) ?_
          refine LO_v rfl rfl rfl rfl (V_move rfl rfl) ?_
          refine LO_v rfl rfl rfl rfl (V_extract rfl rfl rfl) ?_
          refine LO_v rfl rfl rfl rfl (V_extract rfl rfl rfl) ?_
          refine LO_v rfl rfl rfl rfl (V_extract rfl rfl rfl) ?_
          refine LO_s rfl rfl rfl (S_storeW 2 rfl rfl rfl rfl rfl (szd sz47c (by kernel_rfl)) (all_one (by kernel_rfl)) (by kernel_rfl) ⟨(Pk.of_sub (List.Sublist.cons_cons _ (List.Sublist.cons_cons _ (List.nil_sublist _)))), (fun f hf => hf), ?_⟩)
          refine LO_s rfl rfl rfl (S_storeW 3 rfl rfl rfl rfl rfl (szd sz45c (by kernel_rfl)) (all_one (by kernel_rfl)) (by kernel_rfl) ⟨(Pk.of_sub (List.Sublist.cons_cons _ (List.Sublist.cons_cons _ (List.nil_sublist _)))), (fun f hf => hf), ?_⟩)
          refine LO_v rfl rfl rfl rfl (V_assign rfl rfl) ?_
          refine LO_nil ?_
          exact ⟨(b0, b1), ⟨rfl, rfl, rfl, rfl, rfl, trivial⟩, (List.Sublist.cons_cons _ (List.Sublist.cons_cons _ (List.nil_sublist _))), fun f hf => hf, rfl⟩
      ·
        refine LO_s rfl rfl rfl (S_alloc rfl rfl rfl z45c (fun b2 => ⟨(Pk.of_sub (List.Sublist.cons_cons _ (List.Sublist.cons_cons _ (List.nil_sublist _)))), (fun f hf => hf), ?_⟩))
        refine LO_both ?_ ?_
        ·
          refine LO_callV rfl rfl rfl rfl rfl rfl rfl rfl tx13c (fun w1 hw => call_2 w1) (Pk.of_sub (List.Sublist.cons_cons _ (List.Sublist.cons_cons _ (List.nil_sublist _)))) (fun f hf => hf) ?_
          refine LO_v rfl rfl rfl rfl (V_move rfl rfl) ?_
          refine LO_v rfl rfl rfl rfl (V_extract rfl rfl rfl) ?_
          refine LO_v rfl rfl rfl rfl (V_extract rfl rfl rfl) ?_
          refine LO_v rfl rfl rfl rfl (V_extract rfl rfl rfl) ?_
          refine LO_s rfl rfl rfl (S_alloc rfl rfl rfl z47c (fun b3 => ⟨(Pk.of_sub (List.Sublist.cons_cons _ (List.Sublist.cons_cons _ (List.nil_sublist _)))), (fun f hf => hf), ?_⟩))
          refine LO_s rfl rfl rfl (S_storeW 3 rfl rfl rfl rfl rfl (szd sz47c (by kernel_rfl)) (all_one (by kernel_rfl)) (by kernel_rfl) ⟨(Pk.of_sub (List.Sublist.cons_cons _ (List.Sublist.cons_cons _ (List.nil_sublist _)))), (fun f hf => hf), ?_⟩)
          refine LO_s rfl rfl rfl (S_storeW 2 rfl rfl rfl rfl rfl (szd sz45c (by kernel_rfl)) (all_one (by kernel_rfl)) (by kernel_rfl) ⟨(Pk.of_sub (List.Sublist.cons_cons _ (List.Sublist.cons_cons _ (List.nil_sublist _)))), (fun f hf => hf), ?_⟩)
          refine LO_v rfl rfl rfl rfl (V_assign rfl rfl) ?_
          refine LO_nil ?_
          exact ⟨(b0, b1), ⟨rfl, rfl, rfl, rfl, rfl, trivial⟩, (List.Sublist.cons_cons _ (List.Sublist.cons_cons _ (List.nil_sublist _))), fun f hf => hf, rfl⟩
        ·
          refine LO_s rfl rfl rfl (S_alloc rfl rfl rfl z47c (fun b3 => ⟨(Pk.of_sub (List.Sublist.cons_cons _ (List.Sublist.cons_cons _ (List.nil_sublist _)))), (fun f hf => hf), ?_⟩))
          refine LO_callV rfl rfl rfl rfl rfl rfl rfl rfl tx13c (fun w1 hw => call_2 w1) (Pk.of_sub (List.Sublist.cons_cons _ (List.Sublist.cons_cons _ (List.nil_sublist _)))) (fun f hf => hf) ?_
          refine LO_v rfl rfl rfl rfl (V_move rfl rfl) ?_
          refine LO_v rfl rfl rfl rfl (V_extract rfl rfl rfl) ?_
          refine LO_v rfl rfl rfl rfl (V_extract rfl rfl rfl) ?_
          refine LO_v rfl rfl rfl rfl (V_extract rfl rfl rfl) ?_
          refine LO_s rfl rfl rfl (S_storeW 3 rfl rfl rfl rfl rfl (szd sz47c (by kernel_rfl)) (all_one (by kernel_rfl)) (by kernel_rfl) ⟨(Pk.of_sub (List.Sublist.cons_cons _ (List.Sublist.cons_cons _ (List.nil_sublist _)))), (fun f hf => hf), ?_⟩)
          refine LO_s rfl rfl rfl (S_storeW 2 rfl rfl rfl rfl rfl (szd sz45c (by kernel_rfl)) (all_one (by kernel_rfl)) (by kernel_rfl) ⟨(Pk.of_sub (List.Sublist.cons_cons _ (List.Sublist.cons_cons _ (List.nil_sublist _)))), (fun f hf => hf), ?_⟩)
          refine LO_v rfl rfl rfl rfl (V_assign rfl rfl) ?_
          refine LO_nil ?_
          exact ⟨(b0, b1), ⟨rfl, rfl, rfl, rfl, rfl, trivial⟩, (List.Sublist.cons_cons _ (List.Sublist.cons_cons _ (List.nil_sublist _))), fun f hf => hf, rfl⟩
    ·
      refine LO_s rfl rfl rfl (S_alloc rfl rfl rfl z47c (fun b2 => ⟨(Pk.of_sub (List.Sublist.cons_cons _ (List.Sublist.cons_cons _ (List.nil_sublist _)))), (fun f hf => hf), ?_⟩))
      refine LO_both ?_ ?_
      ·
        refine LO_callV rfl rfl rfl rfl rfl rfl rfl rfl tx31c (fun w1 hw => put_w w1) (Pk.of_sub (List.Sublist.cons_cons _ (List.Sublist.cons_cons _ (List.nil_sublist _)))) (fun f hf => hf) ?_
        refine LO_both ?_ ?_
        ·
          refine LO_callV rfl rfl rfl rfl rfl rfl rfl rfl tx13c (fun w1 hw => call_2 w1) (Pk.of_sub (List.Sublist.cons_cons _ (List.Sublist.cons_cons _ (List.nil_sublist _)))) (fun f hf => hf) ?_
          refine LO_v rfl rfl rfl rfl (V_move rfl rfl) ?_
          refine LO_v rfl rfl rfl rfl (V_extract rfl rfl rfl) ?_
          refine LO_v rfl rfl rfl rfl (V_extract rfl rfl rfl) ?_
          refine LO_v rfl rfl rfl rfl (V_extract rfl rfl rfl) ?_
          refine LO_s rfl rfl rfl (S_alloc rfl rfl rfl z45c (fun b3 => ⟨(Pk.of_sub (List.Sublist.cons_cons _ (List.Sublist.cons_cons _ (List.nil_sublist _)))), (fun f hf => hf), ?_⟩))
          refine LO_s rfl rfl rfl (S_storeW 2 rfl rfl rfl rfl rfl (szd sz47c (by kernel_rfl)) (all_one (by kernel_rfl)) (by kernel_rfl) ⟨(Pk.of_sub (List.Sublist.cons_cons _ (List.Sublist.cons_cons _ (List.nil_sublist _)))), (fun f hf => hf), ?_⟩)
          refine LO_s rfl rfl rfl (S_storeW 3 rfl rfl rfl rfl rfl (szd sz45c (by kernel_rfl)) (all_one (by kernel_rfl)) (by kernel_rfl) ⟨(Pk.of_sub (List.Sublist.cons_cons _ (List.Sublist.cons_cons _ (List.nil_sublist _)))), (fun f hf => hf), ?_⟩)
          refine LO_v rfl rfl rfl rfl (V_assign rfl rfl) ?_
          refine LO_nil ?_
          exact ⟨(b0, b1), ⟨rfl, rfl, rfl, rfl, rfl, trivial⟩, (List.Sublist.cons_cons _ (List.Sublist.cons_cons _ (List.nil_sublist _))), fun f hf => hf, rfl⟩
        ·
          refine LO_s rfl rfl rfl (S_alloc rfl rfl rfl z45c (fun b3 => ⟨(Pk.of_sub (List.Sublist.cons_cons _ (List.Sublist.cons_cons _ (List.nil_sublist _)))), (fun f hf => hf), ?_⟩))
          refine LO_callV rfl rfl rfl rfl rfl rfl rfl rfl tx13c (fun w1 hw => call_2 w1) (Pk.of_sub (List.Sublist.cons_cons _ (List.Sublist.cons_cons _ (List.nil_sublist _)))) (fun f hf => hf) ?_
          refine LO_v rfl rfl rfl rfl (V_move rfl rfl) ?_
          refine LO_v rfl rfl rfl rfl (V_extract rfl rfl rfl) ?_
          refine LO_v rfl rfl rfl rfl (V_extract rfl rfl rfl) ?_
          refine LO_v rfl rfl rfl rfl (V_extract rfl rfl rfl) ?_
          refine LO_s rfl rfl rfl (S_storeW 2 rfl rfl rfl rfl rfl (szd sz47c (by kernel_rfl)) (all_one (by kernel_rfl)) (by kernel_rfl) ⟨(Pk.of_sub (List.Sublist.cons_cons _ (List.Sublist.cons_cons _ (List.nil_sublist _)))), (fun f hf => hf), ?_⟩)
          refine LO_s rfl rfl rfl (S_storeW 3 rfl rfl rfl rfl rfl (szd sz45c (by kernel_rfl)) (all_one (by kernel_rfl)) (by kernel_rfl) ⟨(Pk.of_sub (List.Sublist.cons_cons _ (List.Sublist.cons_cons _ (List.nil_sublist _)))), (fun f hf => hf), ?_⟩)
          refine LO_v rfl rfl rfl rfl (V_assign rfl rfl) ?_
          refine LO_nil ?_
          exact ⟨(b0, b1), ⟨rfl, rfl, rfl, rfl, rfl, trivial⟩, (List.Sublist.cons_cons _ (List.Sublist.cons_cons _ (List.nil_sublist _))), fun f hf => hf, rfl⟩
      ·
        refine LO_s rfl rfl rfl (S_alloc rfl rfl rfl z45c (fun b3 => ⟨(Pk.of_sub (List.Sublist.cons_cons _ (List.Sublist.cons_cons _ (List.nil_sublist _)))), (fun f hf => hf), ?_⟩))
        refine LO_callV rfl rfl rfl rfl rfl rfl rfl rfl tx31c (fun w1 hw => put_w w1) (Pk.of_sub (List.Sublist.cons_cons _ (List.Sublist.cons_cons _ (List.nil_sublist _)))) (fun f hf => hf) ?_
        refine LO_callV rfl rfl rfl rfl rfl rfl rfl rfl tx13c (fun w1 hw => call_2 w1) (Pk.of_sub (List.Sublist.cons_cons _ (List.Sublist.cons_cons _ (List.nil_sublist _)))) (fun f hf => hf) ?_
        refine LO_v rfl rfl rfl rfl (V_move rfl rfl) ?_
        refine LO_v rfl rfl rfl rfl (V_extract rfl rfl rfl) ?_
        refine LO_v rfl rfl rfl rfl (V_extract rfl rfl rfl) ?_
        refine LO_v rfl rfl rfl rfl (V_extract rfl rfl rfl) ?_
        refine LO_s rfl rfl rfl (S_storeW 2 rfl rfl rfl rfl rfl (szd sz47c (by kernel_rfl)) (all_one (by kernel_rfl)) (by kernel_rfl) ⟨(Pk.of_sub (List.Sublist.cons_cons _ (List.Sublist.cons_cons _ (List.nil_sublist _)))), (fun f hf => hf), ?_⟩)
        refine LO_s rfl rfl rfl (S_storeW 3 rfl rfl rfl rfl rfl (szd sz45c (by kernel_rfl)) (all_one (by kernel_rfl)) (by kernel_rfl) ⟨(Pk.of_sub (List.Sublist.cons_cons _ (List.Sublist.cons_cons _ (List.nil_sublist _)))), (fun f hf => hf), ?_⟩)
        refine LO_v rfl rfl rfl rfl (V_assign rfl rfl) ?_
        refine LO_nil ?_
        exact ⟨(b0, b1), ⟨rfl, rfl, rfl, rfl, rfl, trivial⟩, (List.Sublist.cons_cons _ (List.Sublist.cons_cons _ (List.nil_sublist _))), fun f hf => hf, rfl⟩
    ·
      refine LO_s rfl rfl rfl (S_alloc rfl rfl rfl z45c (fun b2 => ⟨(Pk.of_sub (List.Sublist.cons_cons _ (List.Sublist.cons_cons _ (List.nil_sublist _)))), (fun f hf => hf), ?_⟩))
      refine LO_both ?_ ?_
      ·
        refine LO_callV rfl rfl rfl rfl rfl rfl rfl rfl tx31c (fun w1 hw => put_w w1) (Pk.of_sub (List.Sublist.cons_cons _ (List.Sublist.cons_cons _ (List.nil_sublist _)))) (fun f hf => hf) ?_
        refine LO_both ?_ ?_
        ·
          refine LO_callV rfl rfl rfl rfl rfl rfl rfl rfl tx13c (fun w1 hw => call_2 w1) (Pk.of_sub (List.Sublist.cons_cons _ (List.Sublist.cons_cons _ (List.nil_sublist _)))) (fun f hf => hf) ?_
          refine LO_v rfl rfl rfl rfl (V_move rfl rfl) ?_
          refine LO_v rfl rfl rfl rfl (V_extract rfl rfl rfl) ?_
          refine LO_v rfl rfl rfl rfl (V_extract rfl rfl rfl) ?_
          refine LO_v rfl rfl rfl rfl (V_extract rfl rfl rfl) ?_
          refine LO_s rfl rfl rfl (S_alloc rfl rfl rfl z47c (fun b3 => ⟨(Pk.of_sub (List.Sublist.cons_cons _ (List.Sublist.cons_cons _ (List.nil_sublist _)))), (fun f hf => hf), ?_⟩))
          refine LO_s rfl rfl rfl (S_storeW 3 rfl rfl rfl rfl rfl (szd sz47c (by kernel_rfl)) (all_one (by kernel_rfl)) (by kernel_rfl) ⟨(Pk.of_sub (List.Sublist.cons_cons _ (List.Sublist.cons_cons _ (List.nil_sublist _)))), (fun f hf => hf), ?_⟩)
          refine LO_s rfl rfl rfl (S_storeW 2 rfl rfl rfl rfl rfl (szd sz45c (by kernel_rfl)) (all_one (by kernel_rfl)) (by kernel_rfl) ⟨(Pk.of_sub (List.Sublist.cons_cons _ (List.Sublist.cons_cons _ (List.nil_sublist _)))), (fun f hf => hf), ?_⟩)
          refine LO_v rfl rfl rfl rfl (V_assign rfl rfl) ?_
          refine LO_nil ?_
          exact ⟨(b0, b1), ⟨rfl, rfl, rfl, rfl, rfl, trivial⟩, (List.Sublist.cons_cons _ (List.Sublist.cons_cons _ (List.nil_sublist _))), fun f hf => hf, rfl⟩
        ·
          refine LO_s rfl rfl rfl (S_alloc rfl rfl rfl z47c (fun b3 => ⟨(Pk.of_sub (List.Sublist.cons_cons _ (List.Sublist.cons_cons _ (List.nil_sublist _)))), (fun f hf => hf), ?_⟩))
          refine LO_callV rfl rfl rfl rfl rfl rfl rfl rfl tx13c (fun w1 hw => call_2 w1) (Pk.of_sub (List.Sublist.cons_cons _ (List.Sublist.cons_cons _ (List.nil_sublist _)))) (fun f hf => hf) ?_
          refine LO_v rfl rfl rfl rfl (V_move rfl rfl) ?_
          refine LO_v rfl rfl rfl rfl (V_extract rfl rfl rfl) ?_
          refine LO_v rfl rfl rfl rfl (V_extract rfl rfl rfl) ?_
          refine LO_v rfl rfl rfl rfl (V_extract rfl rfl rfl) ?_
          refine LO_s rfl rfl rfl (S_storeW 3 rfl rfl rfl rfl rfl (szd sz47c (by kernel_rfl)) (all_one (by kernel_rfl)) (by kernel_rfl) ⟨(Pk.of_sub (List.Sublist.cons_cons _ (List.Sublist.cons_cons _ (List.nil_sublist _)))), (fun f hf => hf), ?_⟩)
          refine LO_s rfl rfl rfl (S_storeW 2 rfl rfl rfl rfl rfl (szd sz45c (by kernel_rfl)) (all_one (by kernel_rfl)) (by kernel_rfl) ⟨(Pk.of_sub (List.Sublist.cons_cons _ (List.Sublist.cons_cons _ (List.nil_sublist _)))), (fun f hf => hf), ?_⟩)
          refine LO_v rfl rfl rfl rfl (V_assign rfl rfl) ?_
          refine LO_nil ?_
          exact ⟨(b0, b1), ⟨rfl, rfl, rfl, rfl, rfl, trivial⟩, (List.Sublist.cons_cons _ (List.Sublist.cons_cons _ (List.nil_sublist _))), fun f hf => hf, rfl⟩
      ·
        refine LO_s rfl rfl rfl (S_alloc rfl rfl rfl z47c (fun b3 => ⟨(Pk.of_sub (List.Sublist.cons_cons _ (List.Sublist.cons_cons _ (List.nil_sublist _)))), (fun f hf => hf), ?_⟩))
        refine LO_callV rfl rfl rfl rfl rfl rfl rfl rfl tx31c (fun w1 hw => put_w w1) (Pk.of_sub (List.Sublist.cons_cons _ (List.Sublist.cons_cons _ (List.nil_sublist _)))) (fun f hf => hf) ?_
        refine LO_callV rfl rfl rfl rfl rfl rfl rfl rfl tx13c (fun w1 hw => call_2 w1) (Pk.of_sub (List.Sublist.cons_cons _ (List.Sublist.cons_cons _ (List.nil_sublist _)))) (fun f hf => hf) ?_
        refine LO_v rfl rfl rfl rfl (V_move rfl rfl) ?_
        refine LO_v rfl rfl rfl rfl (V_extract rfl rfl rfl) ?_
        refine LO_v rfl rfl rfl rfl (V_extract rfl rfl rfl) ?_
        refine LO_v rfl rfl rfl rfl (V_extract rfl rfl rfl) ?_
        refine LO_s rfl rfl rfl (S_storeW 3 rfl rfl rfl rfl rfl (szd sz47c (by kernel_rfl)) (all_one (by kernel_rfl)) (by kernel_rfl) ⟨(Pk.of_sub (List.Sublist.cons_cons _ (List.Sublist.cons_cons _ (List.nil_sublist _)))), (fun f hf => hf), ?_⟩)
        refine LO_s rfl rfl rfl (S_storeW 2 rfl rfl rfl rfl rfl (szd sz45c (by kernel_rfl)) (all_one (by kernel_rfl)) (by kernel_rfl) ⟨(Pk.of_sub (List.Sublist.cons_cons _ (List.Sublist.cons_cons _ (List.nil_sublist _)))), (fun f hf => hf), ?_⟩)
        refine LO_v rfl rfl rfl rfl (V_assign rfl rfl) ?_
        refine LO_nil ?_
        exact ⟨(b0, b1), ⟨rfl, rfl, rfl, rfl, rfl, trivial⟩, (List.Sublist.cons_cons _ (List.Sublist.cons_cons _ (List.nil_sublist _))), fun f hf => hf, rfl⟩
  rintro ⟨b0, b1⟩
  change J _ _ _ _
  refine J_seq ?_
  refine J_region ?_
  refine L_v rfl rfl rfl (V_loadT 0 (vs := ctM c2 m50) rfl rfl rfl Try.underlying47 rfl sz47c (by kernel_rfl) (by kernel_rfl)) ?_
  refine L_callV rfl rfl rfl rfl rfl rfl tx17c (fun w1 hw => retry_2 w1) ?_
  refine L_v rfl rfl rfl (V_move rfl rfl) ?_
  refine L_v rfl rfl rfl (V_extract rfl rfl rfl) ?_
  refine L_v rfl rfl rfl (V_extract rfl rfl rfl) ?_
  refine L_v rfl rfl rfl (V_extract rfl rfl rfl) ?_
  refine L_alloc rfl rfl rfl rfl z45c (fun b2 => ?_)
  refine L_storeW 0 rfl rfl rfl rfl rfl rfl (szd sz47c (by kernel_rfl)) (all_one (by kernel_rfl)) (by kernel_rfl) ?_
  refine L_storeW 2 rfl rfl rfl rfl rfl rfl (szd sz45c (by kernel_rfl)) (all_one (by kernel_rfl)) (by kernel_rfl) ?_
  refine L_v rfl rfl rfl (V_assign rfl rfl) ?_
  refine L_nil ?_
  change J _ _ _ _
  refine J_seq ?_
  refine J_region ?_
  refine L_v rfl rfl rfl (V_loadT 0 (vs := ctM c3 m50) rfl rfl rfl Try.underlying47 rfl sz47c (by kernel_rfl) (by kernel_rfl)) ?_
  refine L_v rfl rfl rfl (V_buildE (v := .agg (rpM r1 slN slN).toArray) rfl rfl (fun w => by kernel_rfl)) ?_
  refine L_v rfl rfl rfl (V_buildE (v := .agg (msM x1 m50).toArray) rfl rfl (fun w => by kernel_rfl)) ?_
  refine L_callV rfl rfl rfl rfl rfl rfl tx8c (fun w1 hw => hear_3 w1) ?_
  refine L_v rfl rfl rfl (V_move rfl rfl) ?_
  refine L_v rfl rfl rfl (V_extract rfl rfl rfl) ?_
  refine L_v rfl rfl rfl (V_extract rfl rfl rfl) ?_
  refine L_v rfl rfl rfl (V_extract rfl rfl rfl) ?_
  refine L_v rfl rfl rfl (V_extract rfl rfl rfl) ?_
  refine L_alloc rfl rfl rfl rfl z45c (fun b3 => ?_)
  refine L_storeW 0 rfl rfl rfl rfl rfl rfl (szd sz47c (by kernel_rfl)) (all_one (by kernel_rfl)) (by kernel_rfl) ?_
  refine L_storeW 3 rfl rfl rfl rfl rfl rfl (szd sz45c (by kernel_rfl)) (all_one (by kernel_rfl)) (by kernel_rfl) ?_
  refine L_v rfl rfl rfl (V_assign rfl rfl) ?_
  refine L_v rfl rfl rfl (V_assign rfl rfl) ?_
  refine L_nil ?_
  change J _ _ _ _
  refine J_seq ?_
  refine J_region ?_
  refine L_v rfl rfl rfl (V_loadT 0 (vs := ctM c4 m50) rfl rfl rfl Try.underlying47 rfl sz47c (by kernel_rfl) (by kernel_rfl)) ?_
  refine L_v rfl rfl rfl (V_buildE (v := .agg (rpM r2 slN slN).toArray) rfl rfl (fun w => by kernel_rfl)) ?_
  refine L_v rfl rfl rfl (V_buildE (v := .agg (msM x2 m50).toArray) rfl rfl (fun w => by kernel_rfl)) ?_
  refine L_callV rfl rfl rfl rfl rfl rfl tx8c (fun w1 hw => hear_4 w1) ?_
  refine L_v rfl rfl rfl (V_move rfl rfl) ?_
  refine L_v rfl rfl rfl (V_extract rfl rfl rfl) ?_
  refine L_v rfl rfl rfl (V_extract rfl rfl rfl) ?_
  refine L_v rfl rfl rfl (V_extract rfl rfl rfl) ?_
  refine L_v rfl rfl rfl (V_extract rfl rfl rfl) ?_
  refine L_alloc rfl rfl rfl rfl z45c (fun b4 => ?_)
  refine L_storeW 0 rfl rfl rfl rfl rfl rfl (szd sz47c (by kernel_rfl)) (all_one (by kernel_rfl)) (by kernel_rfl) ?_
  refine L_storeW 4 rfl rfl rfl rfl rfl rfl (szd sz45c (by kernel_rfl)) (all_one (by kernel_rfl)) (by kernel_rfl) ?_
  refine L_v rfl rfl rfl (V_assign rfl rfl) ?_
  refine L_v rfl rfl rfl (V_assign rfl rfl) ?_
  refine L_nil ?_
  change J _ _ _ _
  refine J_seq ?_
  refine J_region ?_
  refine L_v rfl rfl rfl (V_move rfl rfl) ?_
  refine L_v rfl rfl rfl (V_eql rfl rfl rfl (decide_eq_true rfl)) ?_
  refine L_v rfl rfl rfl (V_move rfl rfl) ?_
  refine L_wv rfl rfl rfl rfl rfl rfl (V_move rfl rfl) ?_
  refine L_wv rfl rfl rfl rfl rfl rfl (V_eql rfl rfl rfl (decide_eq_true rfl)) ?_
  first | refine L_v rfl rfl rfl (V_pickT rfl rfl rfl) ?_ | refine L_v rfl rfl rfl (V_pickF rfl rfl rfl) ?_
  refine L_v rfl rfl rfl (V_move rfl rfl) ?_
  refine L_wv rfl rfl rfl rfl rfl rfl (V_fieldAddr rfl rfl Try.underlying45 rfl sz3c rfl) ?_
  refine L_wv rfl rfl rfl rfl rfl rfl (V_load1 1 rfl rfl rfl Try.underlying3 rfl (by rfl)) ?_
  refine L_wv rfl rfl rfl rfl rfl rfl (V_eql rfl rfl rfl (decide_eq_true rfl)) ?_
  first | refine L_v rfl rfl rfl (V_pickT rfl rfl rfl) ?_ | refine L_v rfl rfl rfl (V_pickF rfl rfl rfl) ?_
  refine L_v rfl rfl rfl (V_move rfl rfl) ?_
  refine L_wv rfl rfl rfl rfl rfl rfl (V_fieldAddr rfl rfl Try.underlying45 rfl sz3c rfl) ?_
  refine L_wv rfl rfl rfl rfl rfl rfl (V_load1 1 rfl rfl rfl Try.underlying3 rfl (by rfl)) ?_
  refine L_wv rfl rfl rfl rfl rfl rfl (V_eql rfl rfl rfl (decide_eq_true rfl)) ?_
  first | refine L_v rfl rfl rfl (V_pickT rfl rfl rfl) ?_ | refine L_v rfl rfl rfl (V_pickF rfl rfl rfl) ?_
  refine L_v rfl rfl rfl (V_move rfl rfl) ?_
  refine L_wv rfl rfl rfl rfl rfl rfl (V_fieldAddr rfl rfl Try.underlying45 rfl sz31c rfl) ?_
  refine L_wv rfl rfl rfl rfl rfl rfl (V_fieldAddr rfl rfl Try.underlying31 rfl sz3c rfl) ?_
  refine L_wv rfl rfl rfl rfl rfl rfl (V_load1 1 rfl rfl rfl Try.underlying3 rfl (by rfl)) ?_
  refine L_wv rfl rfl rfl rfl rfl rfl (V_eql rfl rfl rfl (decide_eq_true rfl)) ?_
  first | refine L_v rfl rfl rfl (V_pickT rfl rfl rfl) ?_ | refine L_v rfl rfl rfl (V_pickF rfl rfl rfl) ?_
  refine L_v rfl rfl rfl (V_move rfl rfl) ?_
  refine L_wv rfl rfl rfl rfl rfl rfl (V_move rfl rfl) ?_
  refine L_wv rfl rfl rfl rfl rfl rfl (V_eql rfl rfl rfl (decide_eq_true rfl)) ?_
  first | refine L_v rfl rfl rfl (V_pickT rfl rfl rfl) ?_ | refine L_v rfl rfl rfl (V_pickF rfl rfl rfl) ?_
  refine L_v rfl rfl rfl (V_move rfl rfl) ?_
  refine L_wv rfl rfl rfl rfl rfl rfl (V_move rfl rfl) ?_
  refine L_wv rfl rfl rfl rfl rfl rfl (V_eql rfl rfl rfl (decide_eq_true rfl)) ?_
  first | refine L_v rfl rfl rfl (V_pickT rfl rfl rfl) ?_ | refine L_v rfl rfl rfl (V_pickF rfl rfl rfl) ?_
  refine L_v rfl rfl rfl (V_move rfl rfl) ?_
  refine L_wv rfl rfl rfl rfl rfl rfl (V_fieldAddr rfl rfl Try.underlying45 rfl sz3c rfl) ?_
  refine L_wv rfl rfl rfl rfl rfl rfl (V_load1 2 rfl rfl rfl Try.underlying3 rfl (by rfl)) ?_
  refine L_wv rfl rfl rfl rfl rfl rfl (V_eql rfl rfl rfl (decide_eq_true rfl)) ?_
  first | refine L_v rfl rfl rfl (V_pickT rfl rfl rfl) ?_ | refine L_v rfl rfl rfl (V_pickF rfl rfl rfl) ?_
  refine L_v rfl rfl rfl (V_assign rfl rfl) ?_
  refine L_nil ?_
  change J _ _ _ _
  refine J_seq ?_
  refine J_region ?_
  refine L_v rfl rfl rfl (V_move rfl rfl) ?_
  refine L_v rfl rfl rfl (V_move rfl rfl) ?_
  refine L_wv rfl rfl rfl rfl rfl rfl (V_move rfl rfl) ?_
  refine L_wv rfl rfl rfl rfl rfl rfl (V_eql rfl rfl rfl (decide_eq_true rfl)) ?_
  first | refine L_v rfl rfl rfl (V_pickT rfl rfl rfl) ?_ | refine L_v rfl rfl rfl (V_pickF rfl rfl rfl) ?_
  refine L_v rfl rfl rfl (V_move rfl rfl) ?_
  refine L_wv rfl rfl rfl rfl rfl rfl (V_fieldAddr rfl rfl Try.underlying45 rfl sz3c rfl) ?_
  refine L_wv rfl rfl rfl rfl rfl rfl (V_load1 3 rfl rfl rfl Try.underlying3 rfl (by rfl)) ?_
  refine L_wv rfl rfl rfl rfl rfl rfl (V_eql rfl rfl rfl (decide_eq_true rfl)) ?_
  first | refine L_v rfl rfl rfl (V_pickT rfl rfl rfl) ?_ | refine L_v rfl rfl rfl (V_pickF rfl rfl rfl) ?_
  refine L_v rfl rfl rfl (V_move rfl rfl) ?_
  refine L_wv rfl rfl rfl rfl rfl rfl (V_move rfl rfl) ?_
  refine L_wv rfl rfl rfl rfl rfl rfl (V_not rfl rfl rfl) ?_
  first | refine L_v rfl rfl rfl (V_pickT rfl rfl rfl) ?_ | refine L_v rfl rfl rfl (V_pickF rfl rfl rfl) ?_
  refine L_v rfl rfl rfl (V_move rfl rfl) ?_
  refine L_wv rfl rfl rfl rfl rfl rfl (V_move rfl rfl) ?_
  refine L_wv rfl rfl rfl rfl rfl rfl (V_eql rfl rfl rfl (decide_eq_true rfl)) ?_
  first | refine L_v rfl rfl rfl (V_pickT rfl rfl rfl) ?_ | refine L_v rfl rfl rfl (V_pickF rfl rfl rfl) ?_
  refine L_v rfl rfl rfl (V_move rfl rfl) ?_
  refine L_wv rfl rfl rfl rfl rfl rfl (V_move rfl rfl) ?_
  first | refine L_v rfl rfl rfl (V_pickT rfl rfl rfl) ?_ | refine L_v rfl rfl rfl (V_pickF rfl rfl rfl) ?_
  refine L_v rfl rfl rfl (V_move rfl rfl) ?_
  refine L_wv rfl rfl rfl rfl rfl rfl (V_fieldAddr rfl rfl Try.underlying47 rfl sz4c rfl) ?_
  refine L_wv rfl rfl rfl rfl rfl rfl (V_load1 0 rfl rfl rfl Try.underlying4 rfl (by rfl)) ?_
  refine L_wv rfl rfl rfl rfl rfl rfl (V_not rfl rfl rfl) ?_
  first | refine L_v rfl rfl rfl (V_pickT rfl rfl rfl) ?_ | refine L_v rfl rfl rfl (V_pickF rfl rfl rfl) ?_
  refine L_v rfl rfl rfl (V_move rfl rfl) ?_
  refine L_wv rfl rfl rfl rfl rfl rfl (V_fieldAddr rfl rfl Try.underlying47 rfl sz3c rfl) ?_
  refine L_wv rfl rfl rfl rfl rfl rfl (V_load1 0 rfl rfl rfl Try.underlying3 rfl (by rfl)) ?_
  refine L_wv rfl rfl rfl rfl rfl rfl (V_eql rfl rfl rfl (decide_eq_true rfl)) ?_
  first | refine L_v rfl rfl rfl (V_pickT rfl rfl rfl) ?_ | refine L_v rfl rfl rfl (V_pickF rfl rfl rfl) ?_
  refine L_v rfl rfl rfl (V_move rfl rfl) ?_
  refine L_wv rfl rfl rfl rfl rfl rfl (V_loadT 0 (vs := ctM c5 m50) rfl rfl rfl Try.underlying47 rfl sz47c (by kernel_rfl) (by kernel_rfl)) ?_
  refine L_wcallV rfl rfl rfl rfl rfl rfl rfl rfl rfl tx19c (fun w1 hw => check_5 w1) ?_
  refine L_wv rfl rfl rfl rfl rfl rfl (V_eql rfl rfl rfl (decide_eq_true rfl)) ?_
  first | refine L_v rfl rfl rfl (V_pickT rfl rfl rfl) ?_ | refine L_v rfl rfl rfl (V_pickF rfl rfl rfl) ?_
  refine L_v rfl rfl rfl (V_assign rfl rfl) ?_
  refine L_nil ?_
  change J _ _ _ _
  refine J_ret ?_
  change Kret _ _ _ Exit.ret _
  refine ret1 rfl rfl (RV_t rfl) ?_
  exact fun w' h => ⟨rfl, h.fr⟩

end Go.Proofs.Ytfdmjjhgdbpfeaa
