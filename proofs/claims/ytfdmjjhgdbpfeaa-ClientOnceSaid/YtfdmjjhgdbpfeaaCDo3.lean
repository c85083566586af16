/- The reference's client; the test without input. -/
import Derived.Test.YtfdmjjhgdbpfeaaCDo2
set_option linter.unusedVariables false
set_option linter.unusedSimpArgs false
set_option maxRecDepth 100000
namespace Go.Proofs.Ytfdmjjhgdbpfeaa
open Go.Sx
theorem tupQ {X Y Z : Ct} {Q : Ms} {m : M5} {e f : Int} (hz : Z = X) (hq : Q = X.msg) (h1 : Y = X) (h2 : f = e) : Ending.returned (.tuple #[.agg (ctM Z m).toArray, .agg (msM Q m).toArray, .int .i64 e]) = Ending.returned (.tuple #[.agg (ctM Y m).toArray, .agg (msM Y.msg m).toArray, .int .i64 f]) := by subst hz; subst hq; rw [h1, h2]
theorem decT {p : Prop} [Decidable p] (h : (!decide p) = true) : ¬ p := by simpa using h
theorem decF {p : Prop} [Decidable p] (h : (!decide p) = false) : p := by simpa using h
theorem sz3f : (Try.prog.info? 3).map (·.size) = some 1 := by kernel_rfl
theorem sz4f : (Try.prog.info? 4).map (·.size) = some 1 := by kernel_rfl
theorem sz22f : (Try.prog.info? 22).map (·.size) = some 1 := by kernel_rfl
theorem sz31f : (Try.prog.info? 31).map (·.size) = some 38 := by kernel_rfl
theorem sz33f : (Try.prog.info? 33).map (·.size) = some 1 := by kernel_rfl
theorem sz43f : (Try.prog.info? 43).map (·.size) = some 169 := by kernel_rfl
theorem sz45f : (Try.prog.info? 45).map (·.size) = some 225 := by kernel_rfl
theorem sz47f : (Try.prog.info? 47).map (·.size) = some 230 := by kernel_rfl
theorem tx12f : Txt Try.prog 12 := txt_of Try.func12 rfl (by kernel_rfl)
theorem tx26f : Txt Try.prog 26 := txt_of Try.func26 rfl (by kernel_rfl)
theorem tx27f : Txt Try.prog 27 := txt_of Try.func27 rfl (by kernel_rfl)
theorem tx28f : Txt Try.prog 28 := txt_of Try.func28 rfl (by kernel_rfl)
theorem tx29f : Txt Try.prog 29 := txt_of Try.func29 rfl (by kernel_rfl)
theorem tx36f : Txt Try.prog 36 := txt_of Try.func36 rfl (by kernel_rfl)
theorem tx37f : Txt Try.prog 37 := txt_of Try.func37 rfl (by kernel_rfl)
theorem tx38f : Txt Try.prog 38 := txt_of Try.func38 rfl (by kernel_rfl)
theorem tx39f : Txt Try.prog 39 := txt_of Try.func39 rfl (by kernel_rfl)
theorem tx40f : Txt Try.prog 40 := txt_of Try.func40 rfl (by kernel_rfl)
theorem z45f : (Try.prog.info? 45).bind (·.zero) = some (.agg [.int .i64 0, .int .i64 0, .int .i64 0, .int .i64 0, .int .i64 0, .int .i64 0, .int .i64 0, .int .i64 0, .bool false, .slice none 0 0, .slice none 0 0, .slice none 0 0, .int .i64 0, .int .i64 0, .string ByteArray.empty, .int .i64 0, .int .i64 0, .int .i64 0, .string ByteArray.empty, .string ByteArray.empty, .int .i64 0, .int .u8 0, .int .u8 0, .int .u8 0, .int .u8 0, .int .u8 0, .int .u8 0, .int .u8 0, .int .u8 0, .int .u8 0, .int .u8 0, .int .u8 0, .int .u8 0, .int .u8 0, .int .u8 0, .int .u8 0, .int .u8 0, .int .u8 0, .int .u8 0, .int .u8 0, .int .u8 0, .int .u8 0, .int .u8 0, .int .u8 0, .int .u8 0, .int .u8 0, .int .u8 0, .int .u8 0, .int .u8 0, .int .u8 0, .int .u8 0, .int .u8 0, .int .u8 0, .int .i64 0, .int .i64 0, .string ByteArray.empty, .int .i64 0, .int .i64 0, .int .i64 0, .int .i64 0, .int .i64 0, .slice none 0 0, .slice none 0 0, .bool false, .int .u8 0, .int .u8 0, .int .u8 0, .int .u8 0, .int .u8 0, .int .u8 0, .int .u8 0, .int .u8 0, .int .u8 0, .int .u8 0, .int .u8 0, .int .u8 0, .int .u8 0, .int .u8 0, .int .u8 0, .int .u8 0, .int .u8 0, .int .u8 0, .int .u8 0, .int .u8 0, .int .u8 0, .int .u8 0, .int .u8 0, .int .u8 0, .int .u8 0, .int .u8 0, .int .u8 0, .int .u8 0, .int .u8 0, .int .u8 0, .int .u8 0, .int .u8 0, .int .u8 0, .int .u8 0, .int .u8 0, .int .u8 0, .int .u8 0, .int .u8 0, .int .u8 0, .int .u8 0, .int .u8 0, .int .u8 0, .int .u8 0, .int .u8 0, .int .u8 0, .int .u8 0, .int .u8 0, .int .u8 0, .int .u8 0, .int .u8 0, .int .u8 0, .int .u8 0, .int .u8 0, .int .u8 0, .int .u8 0, .int .u8 0, .int .u8 0, .int .u8 0, .int .u8 0, .int .u8 0, .int .u8 0, .int .u8 0, .int .u8 0, .int .u8 0, .int .i64 0, .int .u8 0, .int .u8 0, .int .u8 0, .int .u8 0, .int .u8 0, .int .u8 0, .int .u8 0, .int .u8 0, .int .u8 0, .int .u8 0, .int .u8 0, .int .u8 0, .int .u8 0, .int .u8 0, .int .u8 0, .int .u8 0, .int .u8 0, .int .u8 0, .int .u8 0, .int .u8 0, .int .u8 0, .int .u8 0, .int .u8 0, .int .u8 0, .int .u8 0, .int .u8 0, .int .u8 0, .int .u8 0, .int .u8 0, .int .u8 0, .int .u8 0, .int .u8 0, .int .u8 0, .int .u8 0, .int .u8 0, .int .u8 0, .int .u8 0, .int .u8 0, .int .u8 0, .int .u8 0, .int .u8 0, .int .u8 0, .int .u8 0, .int .u8 0, .int .u8 0, .int .u8 0, .int .u8 0, .int .u8 0, .int .u8 0, .int .u8 0, .int .u8 0, .int .u8 0, .int .u8 0, .int .u8 0, .int .u8 0, .int .u8 0, .int .u8 0, .int .u8 0, .int .u8 0, .int .u8 0, .int .u8 0, .int .u8 0, .int .u8 0, .int .u8 0, .int .u8 0, .int .u8 0, .int .u8 0, .int .u8 0, .int .u8 0, .int .u8 0, .int .u8 0, .int .u8 0, .int .u8 0, .int .u8 0, .int .u8 0, .int .u8 0, .int .u8 0, .int .u8 0, .int .u8 0, .int .u8 0, .int .u8 0, .int .u8 0, .int .u8 0, .int .u8 0, .int .u8 0, .int .u8 0, .int .u8 0, .int .u8 0, .int .u8 0, .int .u8 0, .int .u8 0, .int .u8 0, .int .u8 0, .int .u8 0, .int .u8 0, .int .u8 0].toArray) := by kernel_rfl
theorem z47f : (Try.prog.info? 47).bind (·.zero) = some (.agg [.int .i64 0, .int .i64 0, .int .i64 0, .bool false, .int .i64 0, .int .i64 0, .int .i64 0, .int .i64 0, .int .i64 0, .int .i64 0, .int .i64 0, .int .i64 0, .bool false, .slice none 0 0, .slice none 0 0, .slice none 0 0, .int .i64 0, .int .i64 0, .string ByteArray.empty, .int .i64 0, .int .i64 0, .int .i64 0, .string ByteArray.empty, .string ByteArray.empty, .int .i64 0, .int .u8 0, .int .u8 0, .int .u8 0, .int .u8 0, .int .u8 0, .int .u8 0, .int .u8 0, .int .u8 0, .int .u8 0, .int .u8 0, .int .u8 0, .int .u8 0, .int .u8 0, .int .u8 0, .int .u8 0, .int .u8 0, .int .u8 0, .int .u8 0, .int .u8 0, .int .u8 0, .int .u8 0, .int .u8 0, .int .u8 0, .int .u8 0, .int .u8 0, .int .u8 0, .int .u8 0, .int .u8 0, .int .u8 0, .int .u8 0, .int .u8 0, .int .u8 0, .int .i64 0, .int .i64 0, .string ByteArray.empty, .int .i64 0, .int .i64 0, .int .i64 0, .int .i64 0, .int .i64 0, .slice none 0 0, .slice none 0 0, .bool false, .int .u8 0, .int .u8 0, .int .u8 0, .int .u8 0, .int .u8 0, .int .u8 0, .int .u8 0, .int .u8 0, .int .u8 0, .int .u8 0, .int .u8 0, .int .u8 0, .int .u8 0, .int .u8 0, .int .u8 0, .int .u8 0, .int .u8 0, .int .u8 0, .int .u8 0, .int .u8 0, .int .u8 0, .int .u8 0, .int .u8 0, .int .u8 0, .int .u8 0, .int .u8 0, .int .u8 0, .int .u8 0, .int .u8 0, .int .u8 0, .int .u8 0, .int .u8 0, .int .u8 0, .int .u8 0, .int .u8 0, .int .u8 0, .int .u8 0, .int .u8 0, .int .u8 0, .int .u8 0, .int .u8 0, .int .u8 0, .int .u8 0, .int .u8 0, .int .u8 0, .int .u8 0, .int .u8 0, .int .u8 0, .int .u8 0, .int .u8 0, .int .u8 0, .int .u8 0, .int .u8 0, .int .u8 0, .int .u8 0, .int .u8 0, .int .u8 0, .int .u8 0, .int .u8 0, .int .u8 0, .int .u8 0, .int .u8 0, .int .u8 0, .int .u8 0, .int .i64 0, .int .u8 0, .int .u8 0, .int .u8 0, .int .u8 0, .int .u8 0, .int .u8 0, .int .u8 0, .int .u8 0, .int .u8 0, .int .u8 0, .int .u8 0, .int .u8 0, .int .u8 0, .int .u8 0, .int .u8 0, .int .u8 0, .int .u8 0, .int .u8 0, .int .u8 0, .int .u8 0, .int .u8 0, .int .u8 0, .int .u8 0, .int .u8 0, .int .u8 0, .int .u8 0, .int .u8 0, .int .u8 0, .int .u8 0, .int .u8 0, .int .u8 0, .int .u8 0, .int .u8 0, .int .u8 0, .int .u8 0, .int .u8 0, .int .u8 0, .int .u8 0, .int .u8 0, .int .u8 0, .int .u8 0, .int .u8 0, .int .u8 0, .int .u8 0, .int .u8 0, .int .u8 0, .int .u8 0, .int .u8 0, .int .u8 0, .int .u8 0, .int .u8 0, .int .u8 0, .int .u8 0, .int .u8 0, .int .u8 0, .int .u8 0, .int .u8 0, .int .u8 0, .int .u8 0, .int .u8 0, .int .u8 0, .int .u8 0, .int .u8 0, .int .u8 0, .int .u8 0, .int .u8 0, .int .u8 0, .int .u8 0, .int .u8 0, .int .u8 0, .int .u8 0, .int .u8 0, .int .u8 0, .int .u8 0, .int .u8 0, .int .u8 0, .int .u8 0, .int .u8 0, .int .u8 0, .int .u8 0, .int .u8 0, .int .u8 0, .int .u8 0, .int .u8 0, .int .u8 0, .int .u8 0, .int .u8 0, .int .u8 0, .int .u8 0, .int .u8 0, .int .u8 0, .int .u8 0, .int .u8 0, .int .u8 0, .int .u8 0, .int .u8 0, .int .i64 0].toArray) := by kernel_rfl

set_option maxHeartbeats 2000000 in
theorem call21_w (c : Ct) (m : M5) (es : List EnV) (d : Cmd) (w : World) (hx : c.msg.entries = es.map Prod.fst) (f1 : FA w (msF c.msg m es)) (hB : Sz c.msg es) :
    Calls Try.prog 14 #[.agg (ctM c m).toArray, .agg (cmdM d).toArray] w fun e w' => e = .returned (.tuple #[.agg (ctM (begC c d 0 ⟨#[]⟩) m50).toArray, .agg (msM ((begC c d 0 ⟨#[]⟩).msg) m50).toArray, .int .i64 (begE c d 0 ⟨#[]⟩)]) ∧ Fr [] w w' := by
  refine calls_of (args := [.agg (ctM c m).toArray, .agg (cmdM d).toArray]) ([]) ([]) ([msF c.msg m es]) Try.func14 rfl rfl (okFW (.cons f1 .nil)) ?_
  refine J_seq ?_
  refine J_region ?_
  refine L_box rfl rfl rfl rfl rfl (fun b0 => ?_)
  refine L_box rfl rfl rfl rfl rfl (fun b1 => ?_)
  refine L_alloc rfl rfl rfl rfl z47f (fun b2 => ?_)
  refine L_alloc rfl rfl rfl rfl z45f (fun b3 => ?_)
  refine L_v rfl rfl rfl (V_assign rfl rfl) ?_
  refine L_nil ?_
  change J _ _ _ _
  refine J_seq ?_
  refine J_region ?_
  refine L_v rfl rfl rfl (V_loadT 0 (vs := ctM c m) rfl rfl rfl Try.underlying47 rfl sz47f (by kernel_rfl) (by kernel_rfl)) ?_
  refine L_callV rfl rfl rfl rfl rfl rfl tx36f (fun w1 hw => ready_w c m es w1 hx (hw.fa 0 rfl) hB) ?_
  refine L_v rfl rfl rfl (V_assign rfl rfl) ?_
  refine L_nil ?_
  change J _ _ _ _
  refine J_seq ?_
  refine J_seq ?_
  refine J_region ?_
  refine L_v rfl rfl rfl (V_move rfl rfl) ?_
  refine L_v rfl rfl rfl (V_neq rfl rfl rfl rfl) ?_
  refine L_nil ?_
  change J _ _ _ _
  refine J_cond rfl (fun h1 => ?_) (fun h1 => ?_)
  ·
    first | (have h1 := of_decide_eq_true h1) | (have h1 := of_decide_eq_false h1) | skip
    refine J_seq ?_
    refine J_region ?_
    refine L_v rfl rfl rfl (V_buildE (v := .agg (ctM ct0 m50).toArray) rfl rfl (fun w => by kernel_rfl)) ?_
    refine L_v rfl rfl rfl (V_buildE (v := .agg (msM ms0 m50).toArray) rfl rfl (fun w => by kernel_rfl)) ?_
    refine L_v rfl rfl rfl (V_move rfl rfl) ?_
    refine L_storeW 2 rfl rfl rfl rfl rfl rfl (szd sz47f (by kernel_rfl)) (all_one (by kernel_rfl)) (by kernel_rfl) ?_
    refine L_storeW 3 rfl rfl rfl rfl rfl rfl (szd sz45f (by kernel_rfl)) (all_one (by kernel_rfl)) (by kernel_rfl) ?_
    refine L_v rfl rfl rfl (V_assign rfl rfl) ?_
    refine L_nil ?_
    change J _ _ _ _
    refine J_ret ?_
    change Kret _ _ _ Exit.ret _
    refine ret3 rfl rfl (RV_c 2 rfl rfl Try.underlying47 rfl (szd sz47f (by kernel_rfl))) (RV_c 3 rfl rfl Try.underlying45 rfl (szd sz45f (by kernel_rfl))) (RV_t rfl) ?_
    exact fun w' h => ⟨(tup3 (ready_no (a := 0) (u := ⟨#[]⟩) h1).1.symm (ready_no (a := 0) (u := ⟨#[]⟩) h1).2.symm), h.fr⟩
  ·
    first | (have h1 := of_decide_eq_true h1) | (have h1 := of_decide_eq_false h1) | skip
    have hr := (ready_yes h1).1
    obtain ⟨⟨i1, i2⟩, ⟨i3, i4⟩, ⟨i5, i6⟩, i7, i8⟩ := hr.nums
    refine J_skip ?_
    change J _ _ _ _
    refine J_seq ?_
    refine J_region ?_
    refine L_v rfl rfl rfl (V_fieldAddr rfl rfl Try.underlying47 rfl sz3f rfl) ?_
    refine L_v rfl rfl rfl (V_load1 0 rfl rfl rfl Try.underlying3 rfl (by rfl)) ?_
    refine L_v rfl rfl rfl (V_add rfl rfl rfl (by first | exact Go.IntWalk.i64_in _ (by omega) | rfl)) ?_
    refine L_v rfl rfl rfl (V_fieldAddr rfl rfl Try.underlying47 rfl sz3f rfl) ?_
    refine L_store1 0 (l' := ctM (upC c) m) rfl rfl rfl rfl rfl rfl rfl sz3f (Nat.le_of_ble_eq_true (by kernel_rfl)) (by kernel_rfl) ?_
    refine L_nil ?_
    change J _ _ _ _
    refine J_seq ?_
    refine J_region ?_
    refine L_v rfl rfl rfl (V_fieldAddr rfl rfl Try.underlying47 rfl sz3f rfl) ?_
    refine L_v rfl rfl rfl (V_load1 0 rfl rfl rfl Try.underlying3 rfl (by rfl)) ?_
    refine L_v rfl rfl rfl (V_fieldAddr rfl rfl Try.underlying31 rfl sz3f rfl) ?_
    refine L_store1 1 (l' := cmdM (d.1, c.id, d.2.2)) rfl rfl rfl rfl rfl rfl rfl sz3f (Nat.le_of_ble_eq_true (by kernel_rfl)) (by kernel_rfl) ?_
    refine L_nil ?_
    change J _ _ _ _
    refine J_seq ?_
    refine J_region ?_
    refine L_v rfl rfl rfl (V_fieldAddr rfl rfl Try.underlying47 rfl sz3f rfl) ?_
    refine L_v rfl rfl rfl (V_load1 0 rfl rfl rfl Try.underlying3 rfl (by rfl)) ?_
    refine L_v rfl rfl rfl (V_fieldAddr rfl rfl Try.underlying31 rfl sz3f rfl) ?_
    refine L_store1 1 (l' := cmdM (ownCmd c d)) rfl rfl rfl rfl rfl rfl rfl sz3f (Nat.le_of_ble_eq_true (by kernel_rfl)) (by kernel_rfl) ?_
    refine L_nil ?_
    change J _ _ _ _
    refine J_seq ?_
    refine J_seq ?_
    refine J_region ?_
    refine L_v rfl rfl rfl (V_loadT 0 (vs := ctM (upC c) m) rfl rfl rfl Try.underlying47 rfl sz47f (by kernel_rfl) (by kernel_rfl)) ?_
    refine L_v rfl rfl rfl (V_loadT 1 (vs := cmdM (ownCmd c d)) rfl rfl rfl Try.underlying31 rfl sz31f (by kernel_rfl) (by kernel_rfl)) ?_
    refine L_callV rfl rfl rfl rfl rfl rfl tx37f (fun w1 hw => mayCall_w (upC c) m (ownCmd c d) w1) ?_
    refine L_v rfl rfl rfl (V_not rfl rfl rfl) ?_
    refine L_nil ?_
    change J _ _ _ _
    refine J_cond rfl (fun h2 => ?_) (fun h2 => ?_)
    ·
      first | (have h2 := of_decide_eq_true h2) | (have h2 := of_decide_eq_false h2) | skip
      refine J_seq ?_
      refine J_region ?_
      refine L_v rfl rfl rfl (V_buildE (v := .agg (ctM ct0 m50).toArray) rfl rfl (fun w => by kernel_rfl)) ?_
      refine L_v rfl rfl rfl (V_buildE (v := .agg (msM ms0 m50).toArray) rfl rfl (fun w => by kernel_rfl)) ?_
      refine L_storeW 2 rfl rfl rfl rfl rfl rfl (szd sz47f (by kernel_rfl)) (all_one (by kernel_rfl)) (by kernel_rfl) ?_
      refine L_storeW 3 rfl rfl rfl rfl rfl rfl (szd sz45f (by kernel_rfl)) (all_one (by kernel_rfl)) (by kernel_rfl) ?_
      refine L_v rfl rfl rfl (V_assign rfl rfl) ?_
      refine L_nil ?_
      change J _ _ _ _
      refine J_ret ?_
      change Kret _ _ _ Exit.ret _
      refine ret3 rfl rfl (RV_c 2 rfl rfl Try.underlying47 rfl (szd sz47f (by kernel_rfl))) (RV_c 3 rfl rfl Try.underlying45 rfl (szd sz45f (by kernel_rfl))) (RV_t rfl) ?_
      exact fun w' h => ⟨(tup3 (call_no h1 (decT h2)).1.symm (call_no h1 (decT h2)).2.symm), h.fr⟩
    ·
      first | (have h2 := of_decide_eq_true h2) | (have h2 := of_decide_eq_false h2) | skip
      refine J_skip ?_
      change J _ _ _ _
      refine J_seq ?_
      refine J_region ?_
      refine L_v rfl rfl rfl (V_fieldAddr rfl rfl Try.underlying47 rfl sz4f rfl) ?_
      refine L_store1 0 (l' := ctM { upC c with busy := true } m) rfl rfl rfl rfl rfl rfl rfl sz4f (Nat.le_of_ble_eq_true (by kernel_rfl)) (by kernel_rfl) ?_
      refine L_nil ?_
      change J _ _ _ _
      refine J_seq ?_
      refine J_region ?_
      refine L_v rfl rfl rfl (V_loadT 0 (vs := ctM { upC c with busy := true } m) rfl rfl rfl Try.underlying47 rfl sz47f (by kernel_rfl) (by kernel_rfl)) ?_
      refine L_v rfl rfl rfl (V_loadT 1 (vs := cmdM (ownCmd c d)) rfl rfl rfl Try.underlying31 rfl sz31f (by kernel_rfl) (by kernel_rfl)) ?_
      refine L_callV rfl rfl rfl rfl rfl rfl tx38f (fun w1 hw => request_w { upC c with busy := true } m (ownCmd c d) w1 ⟨i1, i2⟩) ?_
      refine L_v rfl rfl rfl (V_fieldAddr rfl rfl Try.underlying47 rfl sz45f rfl) ?_
      refine L_storeT 0 (l' := ctM { upC c with busy := true, msg := reqM (upC c) (ownCmd c d) } m50) rfl rfl rfl rfl rfl rfl (szd sz45f (by kernel_rfl)) (all_one (by kernel_rfl)) (Nat.le_of_ble_eq_true (by kernel_rfl)) (by kernel_rfl) ?_
      refine L_nil ?_
      change J _ _ _ _
      refine J_seq ?_
      refine J_regionO (.pure 0 (.pure 1 (.pure 2 (.one 3 (.one 4 (.pure 5 (.nil))))))) ([(b0, row 47 (ctM { upC c with busy := true, msg := reqM (upC c) (ownCmd c d) } m50)), (b1, row 31 (cmdM (ownCmd c d)))]) _ (Pk.of_sub (List.Sublist.cons_cons _ (List.Sublist.cons_cons _ (List.nil_sublist _)))) (fun f hf => hf) rfl rfl (by kernel_rfl) ?_
      refine LO_v rfl rfl rfl rfl (V_loadT 0 (vs := ctM { upC c with busy := true, msg := reqM (upC c) (ownCmd c d) } m50) rfl rfl rfl Try.underlying47 rfl sz47f (by kernel_rfl) (by kernel_rfl)) ?_
      refine LO_v rfl rfl rfl rfl (V_fieldAddr rfl rfl Try.underlying47 rfl sz45f rfl) ?_
      refine LO_v rfl rfl rfl rfl (V_loadT 0 (vs := msM ({ upC c with busy := true, msg := reqM (upC c) (ownCmd c d) }.msg) m50) rfl rfl rfl Try.underlying45 rfl sz45f (by kernel_rfl) (by kernel_rfl)) ?_
      refine LO_s rfl rfl rfl (S_storeW 2 rfl rfl rfl rfl rfl (szd sz47f (by kernel_rfl)) (all_one (by kernel_rfl)) (by kernel_rfl) ⟨(Pk.of_sub (List.Sublist.cons_cons _ (List.Sublist.cons_cons _ (List.nil_sublist _)))), (fun f hf => hf), ?_⟩)
      refine LO_s rfl rfl rfl (S_storeW 3 rfl rfl rfl rfl rfl (szd sz45f (by kernel_rfl)) (all_one (by kernel_rfl)) (by kernel_rfl) ⟨(Pk.of_sub (List.Sublist.cons_cons _ (List.Sublist.cons_cons _ (List.nil_sublist _)))), (fun f hf => hf), ?_⟩)
      refine LO_v rfl rfl rfl rfl (V_assign rfl rfl) ?_
      refine LO_nil ?_
      change J _ _ _ _
      refine J_ret ?_
      change Kret _ _ _ Exit.ret _
      refine ret3 rfl rfl (RV_c 2 rfl rfl Try.underlying47 rfl (szd sz47f (by kernel_rfl))) (RV_c 3 rfl rfl Try.underlying45 rfl (szd sz45f (by kernel_rfl))) (RV_t rfl) ?_
      exact fun w' h => ⟨(tupQ rfl rfl (call_yes h1 (decF h2)).1 (call_yes h1 (decF h2)).2), h.fr⟩

set_option maxHeartbeats 2000000 in
theorem ask21_w (c : Ct) (m : M5) (es : List EnV) (a : Int) (u : ByteArray) (w : World) (hx : c.msg.entries = es.map Prod.fst) (f1 : FA w (msF c.msg m es)) (hB : Sz c.msg es) :
    Calls Try.prog 16 #[.agg (ctM c m).toArray, .int .i64 a, .string u] w fun e w' => e = .returned (.tuple #[.agg (ctM (begC c cmd0 a u) m50).toArray, .agg (msM ((begC c cmd0 a u).msg) m50).toArray, .int .i64 (begE c cmd0 a u)]) ∧ Fr [] w w' := by
  refine calls_of (args := [.agg (ctM c m).toArray, .int .i64 a, .string u]) ([]) ([]) ([msF c.msg m es]) Try.func16 rfl rfl (okFW (.cons f1 .nil)) ?_
  refine J_seq ?_
  refine J_region ?_
  refine L_box rfl rfl rfl rfl rfl (fun b0 => ?_)
  refine L_alloc rfl rfl rfl rfl z47f (fun b1 => ?_)
  refine L_alloc rfl rfl rfl rfl z45f (fun b2 => ?_)
  refine L_v rfl rfl rfl (V_assign rfl rfl) ?_
  refine L_nil ?_
  change J _ _ _ _
  refine J_seq ?_
  refine J_region ?_
  refine L_v rfl rfl rfl (V_loadT 0 (vs := ctM c m) rfl rfl rfl Try.underlying47 rfl sz47f (by kernel_rfl) (by kernel_rfl)) ?_
  refine L_callV rfl rfl rfl rfl rfl rfl tx36f (fun w1 hw => ready_w c m es w1 hx (hw.fa 0 rfl) hB) ?_
  refine L_v rfl rfl rfl (V_assign rfl rfl) ?_
  refine L_nil ?_
  change J _ _ _ _
  refine J_seq ?_
  refine J_seq ?_
  refine J_region ?_
  refine L_v rfl rfl rfl (V_move rfl rfl) ?_
  refine L_v rfl rfl rfl (V_neq rfl rfl rfl rfl) ?_
  refine L_nil ?_
  change J _ _ _ _
  refine J_cond rfl (fun h1 => ?_) (fun h1 => ?_)
  ·
    first | (have h1 := of_decide_eq_true h1) | (have h1 := of_decide_eq_false h1) | skip
    refine J_seq ?_
    refine J_region ?_
    refine L_v rfl rfl rfl (V_buildE (v := .agg (ctM ct0 m50).toArray) rfl rfl (fun w => by kernel_rfl)) ?_
    refine L_v rfl rfl rfl (V_buildE (v := .agg (msM ms0 m50).toArray) rfl rfl (fun w => by kernel_rfl)) ?_
    refine L_v rfl rfl rfl (V_move rfl rfl) ?_
    refine L_storeW 1 rfl rfl rfl rfl rfl rfl (szd sz47f (by kernel_rfl)) (all_one (by kernel_rfl)) (by kernel_rfl) ?_
    refine L_storeW 2 rfl rfl rfl rfl rfl rfl (szd sz45f (by kernel_rfl)) (all_one (by kernel_rfl)) (by kernel_rfl) ?_
    refine L_v rfl rfl rfl (V_assign rfl rfl) ?_
    refine L_nil ?_
    change J _ _ _ _
    refine J_ret ?_
    change Kret _ _ _ Exit.ret _
    refine ret3 rfl rfl (RV_c 1 rfl rfl Try.underlying47 rfl (szd sz47f (by kernel_rfl))) (RV_c 2 rfl rfl Try.underlying45 rfl (szd sz45f (by kernel_rfl))) (RV_t rfl) ?_
    exact fun w' h => ⟨(tup3 (ready_no (a := a) (u := u) h1).1.symm (ready_no (a := a) (u := u) h1).2.symm), h.fr⟩
  ·
    first | (have h1 := of_decide_eq_true h1) | (have h1 := of_decide_eq_false h1) | skip
    have hr := (ready_yes h1).1
    obtain ⟨⟨i1, i2⟩, ⟨i3, i4⟩, ⟨i5, i6⟩, i7, i8⟩ := hr.nums
    refine J_skip ?_
    change J _ _ _ _
    refine J_seq ?_
    refine J_region ?_
    refine L_v rfl rfl rfl (V_fieldAddr rfl rfl Try.underlying47 rfl sz3f rfl) ?_
    refine L_v rfl rfl rfl (V_load1 0 rfl rfl rfl Try.underlying3 rfl (by rfl)) ?_
    refine L_v rfl rfl rfl (V_add rfl rfl rfl (by first | exact Go.IntWalk.i64_in _ (by omega) | rfl)) ?_
    refine L_v rfl rfl rfl (V_fieldAddr rfl rfl Try.underlying47 rfl sz3f rfl) ?_
    refine L_store1 0 (l' := ctM (upC c) m) rfl rfl rfl rfl rfl rfl rfl sz3f (Nat.le_of_ble_eq_true (by kernel_rfl)) (by kernel_rfl) ?_
    refine L_nil ?_
    change J _ _ _ _
    refine J_seq ?_
    refine J_seq ?_
    refine J_region ?_
    refine L_v rfl rfl rfl (V_loadT 0 (vs := ctM (upC c) m) rfl rfl rfl Try.underlying47 rfl sz47f (by kernel_rfl) (by kernel_rfl)) ?_
    refine L_v rfl rfl rfl (V_move rfl rfl) ?_
    refine L_v rfl rfl rfl (V_move rfl rfl) ?_
    refine L_callV rfl rfl rfl rfl rfl rfl tx39f (fun w1 hw => mayAsk_w (upC c) m a u w1) ?_
    refine L_v rfl rfl rfl (V_not rfl rfl rfl) ?_
    refine L_nil ?_
    change J _ _ _ _
    refine J_cond rfl (fun h2 => ?_) (fun h2 => ?_)
    ·
      first | (have h2 := of_decide_eq_true h2) | (have h2 := of_decide_eq_false h2) | skip
      refine J_seq ?_
      refine J_region ?_
      refine L_v rfl rfl rfl (V_buildE (v := .agg (ctM ct0 m50).toArray) rfl rfl (fun w => by kernel_rfl)) ?_
      refine L_v rfl rfl rfl (V_buildE (v := .agg (msM ms0 m50).toArray) rfl rfl (fun w => by kernel_rfl)) ?_
      refine L_storeW 1 rfl rfl rfl rfl rfl rfl (szd sz47f (by kernel_rfl)) (all_one (by kernel_rfl)) (by kernel_rfl) ?_
      refine L_storeW 2 rfl rfl rfl rfl rfl rfl (szd sz45f (by kernel_rfl)) (all_one (by kernel_rfl)) (by kernel_rfl) ?_
      refine L_v rfl rfl rfl (V_assign rfl rfl) ?_
      refine L_nil ?_
      change J _ _ _ _
      refine J_ret ?_
      change Kret _ _ _ Exit.ret _
      refine ret3 rfl rfl (RV_c 1 rfl rfl Try.underlying47 rfl (szd sz47f (by kernel_rfl))) (RV_c 2 rfl rfl Try.underlying45 rfl (szd sz45f (by kernel_rfl))) (RV_t rfl) ?_
      exact fun w' h => ⟨(tup3 (ask_no h1 (decT h2)).1.symm (ask_no h1 (decT h2)).2.symm), h.fr⟩
    ·
      first | (have h2 := of_decide_eq_true h2) | (have h2 := of_decide_eq_false h2) | skip
      refine J_skip ?_
      change J _ _ _ _
      refine J_seq ?_
      refine J_region ?_
      refine L_v rfl rfl rfl (V_fieldAddr rfl rfl Try.underlying47 rfl sz4f rfl) ?_
      refine L_store1 0 (l' := ctM { upC c with busy := true } m) rfl rfl rfl rfl rfl rfl rfl sz4f (Nat.le_of_ble_eq_true (by kernel_rfl)) (by kernel_rfl) ?_
      refine L_nil ?_
      change J _ _ _ _
      refine J_seq ?_
      refine J_region ?_
      refine L_v rfl rfl rfl (V_loadT 0 (vs := ctM { upC c with busy := true } m) rfl rfl rfl Try.underlying47 rfl sz47f (by kernel_rfl) (by kernel_rfl)) ?_
      refine L_v rfl rfl rfl (V_move rfl rfl) ?_
      refine L_v rfl rfl rfl (V_move rfl rfl) ?_
      refine L_callV rfl rfl rfl rfl rfl rfl tx40f (fun w1 hw => question_w { upC c with busy := true } m a u w1 ⟨i1, i2⟩) ?_
      refine L_v rfl rfl rfl (V_fieldAddr rfl rfl Try.underlying47 rfl sz45f rfl) ?_
      refine L_storeT 0 (l' := ctM { upC c with busy := true, msg := queM (upC c) a u } m50) rfl rfl rfl rfl rfl rfl (szd sz45f (by kernel_rfl)) (all_one (by kernel_rfl)) (Nat.le_of_ble_eq_true (by kernel_rfl)) (by kernel_rfl) ?_
      refine L_nil ?_
      change J _ _ _ _
      refine J_seq ?_
      refine J_regionO (.pure 0 (.pure 1 (.pure 2 (.one 3 (.one 4 (.pure 5 (.nil))))))) ([(b0, row 47 (ctM { upC c with busy := true, msg := queM (upC c) a u } m50))]) _ (Pk.of_sub (List.Sublist.cons_cons _ (List.nil_sublist _))) (fun f hf => hf) rfl rfl (by kernel_rfl) ?_
      refine LO_v rfl rfl rfl rfl (V_loadT 0 (vs := ctM { upC c with busy := true, msg := queM (upC c) a u } m50) rfl rfl rfl Try.underlying47 rfl sz47f (by kernel_rfl) (by kernel_rfl)) ?_
      refine LO_v rfl rfl rfl rfl (V_fieldAddr rfl rfl Try.underlying47 rfl sz45f rfl) ?_
      refine LO_v rfl rfl rfl rfl (V_loadT 0 (vs := msM ({ upC c with busy := true, msg := queM (upC c) a u }.msg) m50) rfl rfl rfl Try.underlying45 rfl sz45f (by kernel_rfl) (by kernel_rfl)) ?_
      refine LO_s rfl rfl rfl (S_storeW 1 rfl rfl rfl rfl rfl (szd sz47f (by kernel_rfl)) (all_one (by kernel_rfl)) (by kernel_rfl) ⟨(Pk.of_sub (List.Sublist.cons_cons _ (List.nil_sublist _))), (fun f hf => hf), ?_⟩)
      refine LO_s rfl rfl rfl (S_storeW 2 rfl rfl rfl rfl rfl (szd sz45f (by kernel_rfl)) (all_one (by kernel_rfl)) (by kernel_rfl) ⟨(Pk.of_sub (List.Sublist.cons_cons _ (List.nil_sublist _))), (fun f hf => hf), ?_⟩)
      refine LO_v rfl rfl rfl rfl (V_assign rfl rfl) ?_
      refine LO_nil ?_
      change J _ _ _ _
      refine J_ret ?_
      change Kret _ _ _ Exit.ret _
      refine ret3 rfl rfl (RV_c 1 rfl rfl Try.underlying47 rfl (szd sz47f (by kernel_rfl))) (RV_c 2 rfl rfl Try.underlying45 rfl (szd sz45f (by kernel_rfl))) (RV_t rfl) ?_
      exact fun w' h => ⟨(tupQ rfl rfl (ask_yes h1 (decF h2)).1 (ask_yes h1 (decF h2)).2), h.fr⟩

set_option maxHeartbeats 2000000 in
theorem retry21_w (c : Ct) (m : M5) (es : List EnV) (w : World) (hx : c.msg.entries = es.map Prod.fst) (f1 : FA w (msF c.msg m es)) (hB : Sz c.msg es) :
    Calls Try.prog 18 #[.agg (ctM c m).toArray] w fun e w' => e = .returned (.tuple #[.agg (ctM (retC c) (selM (retS c) m)).toArray, .agg (msM (retX c) (selM (retT c) m)).toArray, .int .i64 (retE c)]) ∧ Fr [] w w' := by
  refine calls_of (args := [.agg (ctM c m).toArray]) ([]) ([]) ([msF c.msg m es]) Try.func18 rfl rfl (okFW (.cons f1 .nil)) ?_
  refine J_seq ?_
  refine J_region ?_
  refine L_box rfl rfl rfl rfl rfl (fun b0 => ?_)
  refine L_alloc rfl rfl rfl rfl z47f (fun b1 => ?_)
  refine L_alloc rfl rfl rfl rfl z45f (fun b2 => ?_)
  refine L_v rfl rfl rfl (V_assign rfl rfl) ?_
  refine L_nil ?_
  change J _ _ _ _
  refine J_seq ?_
  refine J_seq ?_
  refine J_region ?_
  refine L_v rfl rfl rfl (V_loadT 0 (vs := ctM c m) rfl rfl rfl Try.underlying47 rfl sz47f (by kernel_rfl) (by kernel_rfl)) ?_
  refine L_callV rfl rfl rfl rfl rfl rfl tx26f (fun w1 hw => right21_w c m es w1 hx (hw.fa 0 rfl) hB) ?_
  refine L_v rfl rfl rfl (V_not rfl rfl rfl) ?_
  refine L_nil ?_
  change J _ _ _ _
  refine J_cond rfl (fun h1 => ?_) (fun h1 => ?_)
  ·
    first | (have h1 := of_decide_eq_true h1) | (have h1 := of_decide_eq_false h1) | skip
    refine J_seq ?_
    refine J_region ?_
    refine L_v rfl rfl rfl (V_buildE (v := .agg (ctM ct0 m50).toArray) rfl rfl (fun w => by kernel_rfl)) ?_
    refine L_v rfl rfl rfl (V_buildE (v := .agg (msM ms0 m50).toArray) rfl rfl (fun w => by kernel_rfl)) ?_
    refine L_storeW 1 rfl rfl rfl rfl rfl rfl (szd sz47f (by kernel_rfl)) (all_one (by kernel_rfl)) (by kernel_rfl) ?_
    refine L_storeW 2 rfl rfl rfl rfl rfl rfl (szd sz45f (by kernel_rfl)) (all_one (by kernel_rfl)) (by kernel_rfl) ?_
    refine L_v rfl rfl rfl (V_assign rfl rfl) ?_
    refine L_nil ?_
    change J _ _ _ _
    refine J_ret ?_
    change Kret _ _ _ Exit.ret _
    refine ret3 rfl rfl (RV_c 1 rfl rfl Try.underlying47 rfl (szd sz47f (by kernel_rfl))) (RV_c 2 rfl rfl Try.underlying45 rfl (szd sz45f (by kernel_rfl))) (RV_t rfl) ?_
    exact fun w' h => ⟨by have hk : retK c = 0 := if_neg (decT h1); unfold retC retX retS retT retE; rw [hk]; rfl, h.fr⟩
  ·
    first | (have h1 := of_decide_eq_true h1) | (have h1 := of_decide_eq_false h1) | skip
    have hr := decF h1
    obtain ⟨⟨i1, i2⟩, ⟨i3, i4⟩, ⟨i5, i6⟩, i7, i8⟩ := hr.nums
    refine J_skip ?_
    change J _ _ _ _
    refine J_seq ?_
    refine J_seq ?_
    refine J_region ?_
    refine L_v rfl rfl rfl (V_fieldAddr rfl rfl Try.underlying47 rfl sz4f rfl) ?_
    refine L_v rfl rfl rfl (V_load1 0 rfl rfl rfl Try.underlying4 rfl (by rfl)) ?_
    refine L_v rfl rfl rfl (V_not rfl rfl rfl) ?_
    refine L_nil ?_
    change J _ _ _ _
    refine J_cond rfl (fun h2 => ?_) (fun h2 => ?_)
    ·
      first | (have h2 := of_decide_eq_true h2) | (have h2 := of_decide_eq_false h2) | skip
      refine J_seq ?_
      refine J_region ?_
      refine L_v rfl rfl rfl (V_loadT 0 (vs := ctM c m) rfl rfl rfl Try.underlying47 rfl sz47f (by kernel_rfl) (by kernel_rfl)) ?_
      refine L_v rfl rfl rfl (V_buildE (v := .agg (msM ms0 m50).toArray) rfl rfl (fun w => by kernel_rfl)) ?_
      refine L_storeW 1 rfl rfl rfl rfl rfl rfl (szd sz47f (by kernel_rfl)) (all_one (by kernel_rfl)) (by kernel_rfl) ?_
      refine L_storeW 2 rfl rfl rfl rfl rfl rfl (szd sz45f (by kernel_rfl)) (all_one (by kernel_rfl)) (by kernel_rfl) ?_
      refine L_v rfl rfl rfl (V_assign rfl rfl) ?_
      refine L_nil ?_
      change J _ _ _ _
      refine J_ret ?_
      change Kret _ _ _ Exit.ret _
      refine ret3 rfl rfl (RV_c 1 rfl rfl Try.underlying47 rfl (szd sz47f (by kernel_rfl))) (RV_c 2 rfl rfl Try.underlying45 rfl (szd sz45f (by kernel_rfl))) (RV_t rfl) ?_
      exact fun w' h => ⟨by have hk : retK c = 1 := (by unfold retK; rw [if_pos hr, if_neg (by simpa using h2)]); unfold retC retX retS retT retE; rw [hk]; rfl, h.fr⟩
    ·
      first | (have h2 := of_decide_eq_true h2) | (have h2 := of_decide_eq_false h2) | skip
      refine J_skip ?_
      change J _ _ _ _
      refine J_seq ?_
      refine J_regionO (.pure 0 (.pure 1 (.pure 2 (.three 3 (.three 4 (.pure 5 (.pure 6 (.pure 7 (.two 8 (.one 9 (.one 10 (.one 11 (.nil)))) 9 (.one 8 (.one 10 (.one 11 (.nil)))))))) 8 (.two 4 (.pure 5 (.pure 6 (.pure 7 (.one 9 (.one 10 (.one 11 (.nil))))))) 9 (.one 4 (.pure 5 (.pure 6 (.pure 7 (.one 10 (.one 11 (.nil)))))))) 9 (.two 4 (.pure 5 (.pure 6 (.pure 7 (.one 8 (.one 10 (.one 11 (.nil))))))) 8 (.one 4 (.pure 5 (.pure 6 (.pure 7 (.one 10 (.one 11 (.nil))))))))) 8 (.two 3 (.two 4 (.pure 5 (.pure 6 (.pure 7 (.one 9 (.one 10 (.one 11 (.nil))))))) 9 (.one 4 (.pure 5 (.pure 6 (.pure 7 (.one 10 (.one 11 (.nil)))))))) 9 (.one 3 (.one 4 (.pure 5 (.pure 6 (.pure 7 (.one 10 (.one 11 (.nil))))))))) 9 (.two 3 (.two 4 (.pure 5 (.pure 6 (.pure 7 (.one 8 (.one 10 (.one 11 (.nil))))))) 8 (.one 4 (.pure 5 (.pure 6 (.pure 7 (.one 10 (.one 11 (.nil)))))))) 8 (.one 3 (.one 4 (.pure 5 (.pure 6 (.pure 7 (.one 10 (.one 11 (.nil))))))))))))) ([(b0, row 47 (ctM c m)), (b1, row 47 ([.int .i64 0, .int .i64 0, .int .i64 0, .bool false, .int .i64 0, .int .i64 0, .int .i64 0, .int .i64 0, .int .i64 0, .int .i64 0, .int .i64 0, .int .i64 0, .bool false, .slice none 0 0, .slice none 0 0, .slice none 0 0, .int .i64 0, .int .i64 0, .string ByteArray.empty, .int .i64 0, .int .i64 0, .int .i64 0, .string ByteArray.empty, .string ByteArray.empty, .int .i64 0, .int .u8 0, .int .u8 0, .int .u8 0, .int .u8 0, .int .u8 0, .int .u8 0, .int .u8 0, .int .u8 0, .int .u8 0, .int .u8 0, .int .u8 0, .int .u8 0, .int .u8 0, .int .u8 0, .int .u8 0, .int .u8 0, .int .u8 0, .int .u8 0, .int .u8 0, .int .u8 0, .int .u8 0, .int .u8 0, .int .u8 0, .int .u8 0, .int .u8 0, .int .u8 0, .int .u8 0, .int .u8 0, .int .u8 0, .int .u8 0, .int .u8 0, .int .u8 0, .int .i64 0, .int .i64 0, .string ByteArray.empty, .int .i64 0, .int .i64 0, .int .i64 0, .int .i64 0, .int .i64 0, .slice none 0 0, .slice none 0 0, .bool false, .int .u8 0, .int .u8 0, .int .u8 0, .int .u8 0, .int .u8 0, .int .u8 0, .int .u8 0, .int .u8 0, .int .u8 0, .int .u8 0, .int .u8 0, .int .u8 0, .int .u8 0, .int .u8 0, .int .u8 0, .int .u8 0, .int .u8 0, .int .u8 0, .int .u8 0, .int .u8 0, .int .u8 0, .int .u8 0, .int .u8 0, .int .u8 0, .int .u8 0, .int .u8 0, .int .u8 0, .int .u8 0, .int .u8 0, .int .u8 0, .int .u8 0, .int .u8 0, .int .u8 0, .int .u8 0, .int .u8 0, .int .u8 0, .int .u8 0, .int .u8 0, .int .u8 0, .int .u8 0, .int .u8 0, .int .u8 0, .int .u8 0, .int .u8 0, .int .u8 0, .int .u8 0, .int .u8 0, .int .u8 0, .int .u8 0, .int .u8 0, .int .u8 0, .int .u8 0, .int .u8 0, .int .u8 0, .int .u8 0, .int .u8 0, .int .u8 0, .int .u8 0, .int .u8 0, .int .u8 0, .int .u8 0, .int .u8 0, .int .u8 0, .int .u8 0, .int .i64 0, .int .u8 0, .int .u8 0, .int .u8 0, .int .u8 0, .int .u8 0, .int .u8 0, .int .u8 0, .int .u8 0, .int .u8 0, .int .u8 0, .int .u8 0, .int .u8 0, .int .u8 0, .int .u8 0, .int .u8 0, .int .u8 0, .int .u8 0, .int .u8 0, .int .u8 0, .int .u8 0, .int .u8 0, .int .u8 0, .int .u8 0, .int .u8 0, .int .u8 0, .int .u8 0, .int .u8 0, .int .u8 0, .int .u8 0, .int .u8 0, .int .u8 0, .int .u8 0, .int .u8 0, .int .u8 0, .int .u8 0, .int .u8 0, .int .u8 0, .int .u8 0, .int .u8 0, .int .u8 0, .int .u8 0, .int .u8 0, .int .u8 0, .int .u8 0, .int .u8 0, .int .u8 0, .int .u8 0, .int .u8 0, .int .u8 0, .int .u8 0, .int .u8 0, .int .u8 0, .int .u8 0, .int .u8 0, .int .u8 0, .int .u8 0, .int .u8 0, .int .u8 0, .int .u8 0, .int .u8 0, .int .u8 0, .int .u8 0, .int .u8 0, .int .u8 0, .int .u8 0, .int .u8 0, .int .u8 0, .int .u8 0, .int .u8 0, .int .u8 0, .int .u8 0, .int .u8 0, .int .u8 0, .int .u8 0, .int .u8 0, .int .u8 0, .int .u8 0, .int .u8 0, .int .u8 0, .int .u8 0, .int .u8 0, .int .u8 0, .int .u8 0, .int .u8 0, .int .u8 0, .int .u8 0, .int .u8 0, .int .u8 0, .int .u8 0, .int .u8 0, .int .u8 0, .int .u8 0, .int .u8 0, .int .u8 0, .int .u8 0, .int .u8 0, .int .i64 0])), (b2, row 45 ([.int .i64 0, .int .i64 0, .int .i64 0, .int .i64 0, .int .i64 0, .int .i64 0, .int .i64 0, .int .i64 0, .bool false, .slice none 0 0, .slice none 0 0, .slice none 0 0, .int .i64 0, .int .i64 0, .string ByteArray.empty, .int .i64 0, .int .i64 0, .int .i64 0, .string ByteArray.empty, .string ByteArray.empty, .int .i64 0, .int .u8 0, .int .u8 0, .int .u8 0, .int .u8 0, .int .u8 0, .int .u8 0, .int .u8 0, .int .u8 0, .int .u8 0, .int .u8 0, .int .u8 0, .int .u8 0, .int .u8 0, .int .u8 0, .int .u8 0, .int .u8 0, .int .u8 0, .int .u8 0, .int .u8 0, .int .u8 0, .int .u8 0, .int .u8 0, .int .u8 0, .int .u8 0, .int .u8 0, .int .u8 0, .int .u8 0, .int .u8 0, .int .u8 0, .int .u8 0, .int .u8 0, .int .u8 0, .int .i64 0, .int .i64 0, .string ByteArray.empty, .int .i64 0, .int .i64 0, .int .i64 0, .int .i64 0, .int .i64 0, .slice none 0 0, .slice none 0 0, .bool false, .int .u8 0, .int .u8 0, .int .u8 0, .int .u8 0, .int .u8 0, .int .u8 0, .int .u8 0, .int .u8 0, .int .u8 0, .int .u8 0, .int .u8 0, .int .u8 0, .int .u8 0, .int .u8 0, .int .u8 0, .int .u8 0, .int .u8 0, .int .u8 0, .int .u8 0, .int .u8 0, .int .u8 0, .int .u8 0, .int .u8 0, .int .u8 0, .int .u8 0, .int .u8 0, .int .u8 0, .int .u8 0, .int .u8 0, .int .u8 0, .int .u8 0, .int .u8 0, .int .u8 0, .int .u8 0, .int .u8 0, .int .u8 0, .int .u8 0, .int .u8 0, .int .u8 0, .int .u8 0, .int .u8 0, .int .u8 0, .int .u8 0, .int .u8 0, .int .u8 0, .int .u8 0, .int .u8 0, .int .u8 0, .int .u8 0, .int .u8 0, .int .u8 0, .int .u8 0, .int .u8 0, .int .u8 0, .int .u8 0, .int .u8 0, .int .u8 0, .int .u8 0, .int .u8 0, .int .u8 0, .int .u8 0, .int .u8 0, .int .u8 0, .int .u8 0, .int .i64 0, .int .u8 0, .int .u8 0, .int .u8 0, .int .u8 0, .int .u8 0, .int .u8 0, .int .u8 0, .int .u8 0, .int .u8 0, .int .u8 0, .int .u8 0, .int .u8 0, .int .u8 0, .int .u8 0, .int .u8 0, .int .u8 0, .int .u8 0, .int .u8 0, .int .u8 0, .int .u8 0, .int .u8 0, .int .u8 0, .int .u8 0, .int .u8 0, .int .u8 0, .int .u8 0, .int .u8 0, .int .u8 0, .int .u8 0, .int .u8 0, .int .u8 0, .int .u8 0, .int .u8 0, .int .u8 0, .int .u8 0, .int .u8 0, .int .u8 0, .int .u8 0, .int .u8 0, .int .u8 0, .int .u8 0, .int .u8 0, .int .u8 0, .int .u8 0, .int .u8 0, .int .u8 0, .int .u8 0, .int .u8 0, .int .u8 0, .int .u8 0, .int .u8 0, .int .u8 0, .int .u8 0, .int .u8 0, .int .u8 0, .int .u8 0, .int .u8 0, .int .u8 0, .int .u8 0, .int .u8 0, .int .u8 0, .int .u8 0, .int .u8 0, .int .u8 0, .int .u8 0, .int .u8 0, .int .u8 0, .int .u8 0, .int .u8 0, .int .u8 0, .int .u8 0, .int .u8 0, .int .u8 0, .int .u8 0, .int .u8 0, .int .u8 0, .int .u8 0, .int .u8 0, .int .u8 0, .int .u8 0, .int .u8 0, .int .u8 0, .int .u8 0, .int .u8 0, .int .u8 0, .int .u8 0, .int .u8 0, .int .u8 0, .int .u8 0, .int .u8 0, .int .u8 0, .int .u8 0, .int .u8 0, .int .u8 0, .int .u8 0, .int .u8 0]))]) _ (Pk.of_sub (List.Sublist.cons_cons _ (List.Sublist.cons_cons _ (List.Sublist.cons_cons _ (List.nil_sublist _))))) (fun f hf => hf) rfl rfl (by kernel_rfl) ?_
      refine LO_v rfl rfl rfl rfl (V_loadT 0 (vs := ctM c m) rfl rfl rfl Try.underlying47 rfl sz47f (by kernel_rfl) (by kernel_rfl)) ?_
      refine LO_v rfl rfl rfl rfl (V_fieldAddr rfl rfl Try.underlying47 rfl sz3f rfl) ?_
      refine LO_v rfl rfl rfl rfl (V_load1 0 rfl rfl rfl Try.underlying3 rfl (by rfl)) ?_
      refine LO_three ?_ ?_ ?_
      ·
        refine LO_callV rfl rfl rfl rfl rfl rfl rfl rfl tx28f (fun w1 hw => next_w _ w1 ⟨i5, i6⟩) (Pk.of_sub (List.Sublist.cons_cons _ (List.Sublist.cons_cons _ (List.Sublist.cons_cons _ (List.nil_sublist _))))) (fun f hf => hf) ?_
        refine LO_three ?_ ?_ ?_
        ·
          refine LO_callV rfl rfl rfl rfl rfl rfl rfl rfl tx29f (fun w1 hw => turn_w c m _ w1 ⟨i7, i8⟩) (Pk.of_sub (List.Sublist.cons_cons _ (List.Sublist.cons_cons _ (List.Sublist.cons_cons _ (List.nil_sublist _))))) (fun f hf => hf) ?_
          refine LO_v rfl rfl rfl rfl (V_move rfl rfl) ?_
          refine LO_v rfl rfl rfl rfl (V_extract rfl rfl rfl) ?_
          refine LO_v rfl rfl rfl rfl (V_extract rfl rfl rfl) ?_
          refine LO_both ?_ ?_
          ·
            refine LO_s rfl rfl rfl (S_alloc rfl rfl rfl z47f (fun b3 => ⟨(Pk.of_sub (List.Sublist.cons_cons _ (List.Sublist.cons_cons _ (List.Sublist.cons_cons _ (List.nil_sublist _))))), (fun f hf => hf), ?_⟩))
            refine LO_s rfl rfl rfl (S_alloc rfl rfl rfl z45f (fun b4 => ⟨(Pk.of_sub (List.Sublist.cons_cons _ (List.Sublist.cons_cons _ (List.Sublist.cons_cons _ (List.nil_sublist _))))), (fun f hf => hf), ?_⟩))
            refine LO_s rfl rfl rfl (S_storeW 3 rfl rfl rfl rfl rfl (szd sz47f (by kernel_rfl)) (all_one (by kernel_rfl)) (by kernel_rfl) ⟨(Pk.of_sub (List.Sublist.cons_cons _ (List.Sublist.cons_cons _ (List.Sublist.cons_cons _ (List.nil_sublist _))))), (fun f hf => hf), ?_⟩)
            refine LO_s rfl rfl rfl (S_storeW 4 rfl rfl rfl rfl rfl (szd sz45f (by kernel_rfl)) (all_one (by kernel_rfl)) (by kernel_rfl) ⟨(Pk.of_sub (List.Sublist.cons_cons _ (List.Sublist.cons_cons _ (List.Sublist.cons_cons _ (List.nil_sublist _))))), (fun f hf => hf), ?_⟩)
            refine LO_nil ?_
            change J _ _ _ _
            refine J_seq ?_
            refine J_regionO (.pure 0 (.pure 1 (.one 2 (.one 3 (.pure 4 (.nil)))))) ([(b0, row 47 (ctM c m)), (b3, row 47 (ctM (turnC c (afterN c.target)) m)), (b4, row 45 (msM ((turnC c (afterN c.target)).msg) m))]) _ (Pk.of_sub (List.Sublist.cons_cons _ (List.Sublist.cons _ (List.Sublist.cons _ (List.Sublist.cons_cons _ (List.Sublist.cons_cons _ (List.nil_sublist _))))))) (fun f hf => hf) rfl rfl (by kernel_rfl) ?_
            refine LO_v rfl rfl rfl rfl (V_loadT 1 (vs := ctM (turnC c (afterN c.target)) m) rfl rfl rfl Try.underlying47 rfl sz47f (by kernel_rfl) (by kernel_rfl)) ?_
            refine LO_v rfl rfl rfl rfl (V_loadT 2 (vs := msM ((turnC c (afterN c.target)).msg) m) rfl rfl rfl Try.underlying45 rfl sz45f (by kernel_rfl) (by kernel_rfl)) ?_
            refine LO_s rfl rfl rfl (S_storeW 1 rfl rfl rfl rfl rfl (szd sz47f (by kernel_rfl)) (all_one (by kernel_rfl)) (by kernel_rfl) ⟨(Pk.of_sub (List.Sublist.cons_cons _ (List.Sublist.cons _ (List.Sublist.cons _ (List.Sublist.cons_cons _ (List.Sublist.cons_cons _ (List.nil_sublist _))))))), (fun f hf => hf), ?_⟩)
            refine LO_s rfl rfl rfl (S_storeW 2 rfl rfl rfl rfl rfl (szd sz45f (by kernel_rfl)) (all_one (by kernel_rfl)) (by kernel_rfl) ⟨(Pk.of_sub (List.Sublist.cons_cons _ (List.Sublist.cons _ (List.Sublist.cons _ (List.Sublist.cons_cons _ (List.Sublist.cons_cons _ (List.nil_sublist _))))))), (fun f hf => hf), ?_⟩)
            refine LO_v rfl rfl rfl rfl (V_assign rfl rfl) ?_
            refine LO_nil ?_
            change J _ _ _ _
            refine J_ret ?_
            change Kret _ _ _ Exit.ret _
            refine ret3 rfl rfl (RV_c 1 rfl rfl Try.underlying47 rfl (szd sz47f (by kernel_rfl))) (RV_c 2 rfl rfl Try.underlying45 rfl (szd sz45f (by kernel_rfl))) (RV_t rfl) ?_
            exact fun w' h => ⟨by have hk : retK c = 2 := (by unfold retK; rw [if_pos hr, if_pos (by simpa using h2)]); unfold retC retX retS retT retE; rw [hk]; rfl, h.fr⟩
          ·
            refine LO_s rfl rfl rfl (S_alloc rfl rfl rfl z45f (fun b3 => ⟨(Pk.of_sub (List.Sublist.cons_cons _ (List.Sublist.cons_cons _ (List.Sublist.cons_cons _ (List.nil_sublist _))))), (fun f hf => hf), ?_⟩))
            refine LO_s rfl rfl rfl (S_alloc rfl rfl rfl z47f (fun b4 => ⟨(Pk.of_sub (List.Sublist.cons_cons _ (List.Sublist.cons_cons _ (List.Sublist.cons_cons _ (List.nil_sublist _))))), (fun f hf => hf), ?_⟩))
            refine LO_s rfl rfl rfl (S_storeW 4 rfl rfl rfl rfl rfl (szd sz47f (by kernel_rfl)) (all_one (by kernel_rfl)) (by kernel_rfl) ⟨(Pk.of_sub (List.Sublist.cons_cons _ (List.Sublist.cons_cons _ (List.Sublist.cons_cons _ (List.nil_sublist _))))), (fun f hf => hf), ?_⟩)
            refine LO_s rfl rfl rfl (S_storeW 3 rfl rfl rfl rfl rfl (szd sz45f (by kernel_rfl)) (all_one (by kernel_rfl)) (by kernel_rfl) ⟨(Pk.of_sub (List.Sublist.cons_cons _ (List.Sublist.cons_cons _ (List.Sublist.cons_cons _ (List.nil_sublist _))))), (fun f hf => hf), ?_⟩)
            refine LO_nil ?_
            change J _ _ _ _
            refine J_seq ?_
            refine J_regionO (.pure 0 (.pure 1 (.one 2 (.one 3 (.pure 4 (.nil)))))) ([(b0, row 47 (ctM c m)), (b3, row 45 (msM ((turnC c (afterN c.target)).msg) m)), (b4, row 47 (ctM (turnC c (afterN c.target)) m))]) _ (Pk.of_sub (List.Sublist.cons_cons _ (List.Sublist.cons _ (List.Sublist.cons _ (List.Sublist.cons_cons _ (List.Sublist.cons_cons _ (List.nil_sublist _))))))) (fun f hf => hf) rfl rfl (by kernel_rfl) ?_
            refine LO_v rfl rfl rfl rfl (V_loadT 2 (vs := ctM (turnC c (afterN c.target)) m) rfl rfl rfl Try.underlying47 rfl sz47f (by kernel_rfl) (by kernel_rfl)) ?_
            refine LO_v rfl rfl rfl rfl (V_loadT 1 (vs := msM ((turnC c (afterN c.target)).msg) m) rfl rfl rfl Try.underlying45 rfl sz45f (by kernel_rfl) (by kernel_rfl)) ?_
            refine LO_s rfl rfl rfl (S_storeW 1 rfl rfl rfl rfl rfl (szd sz47f (by kernel_rfl)) (all_one (by kernel_rfl)) (by kernel_rfl) ⟨(Pk.of_sub (List.Sublist.cons_cons _ (List.Sublist.cons _ (List.Sublist.cons _ (List.Sublist.cons_cons _ (List.Sublist.cons_cons _ (List.nil_sublist _))))))), (fun f hf => hf), ?_⟩)
            refine LO_s rfl rfl rfl (S_storeW 2 rfl rfl rfl rfl rfl (szd sz45f (by kernel_rfl)) (all_one (by kernel_rfl)) (by kernel_rfl) ⟨(Pk.of_sub (List.Sublist.cons_cons _ (List.Sublist.cons _ (List.Sublist.cons _ (List.Sublist.cons_cons _ (List.Sublist.cons_cons _ (List.nil_sublist _))))))), (fun f hf => hf), ?_⟩)
            refine LO_v rfl rfl rfl rfl (V_assign rfl rfl) ?_
            refine LO_nil ?_
            change J _ _ _ _
            refine J_ret ?_
            change Kret _ _ _ Exit.ret _
            refine ret3 rfl rfl (RV_c 1 rfl rfl Try.underlying47 rfl (szd sz47f (by kernel_rfl))) (RV_c 2 rfl rfl Try.underlying45 rfl (szd sz45f (by kernel_rfl))) (RV_t rfl) ?_
            exact fun w' h => ⟨by have hk : retK c = 2 := (by unfold retK; rw [if_pos hr, if_pos (by simpa using h2)]); unfold retC retX retS retT retE; rw [hk]; rfl, h.fr⟩
        ·
          refine LO_s rfl rfl rfl (S_alloc rfl rfl rfl z47f (fun b3 => ⟨(Pk.of_sub (List.Sublist.cons_cons _ (List.Sublist.cons_cons _ (List.Sublist.cons_cons _ (List.nil_sublist _))))), (fun f hf => hf), ?_⟩))
          refine LO_both ?_ ?_
          ·
            refine LO_callV rfl rfl rfl rfl rfl rfl rfl rfl tx29f (fun w1 hw => turn_w c m _ w1 ⟨i7, i8⟩) (Pk.of_sub (List.Sublist.cons_cons _ (List.Sublist.cons_cons _ (List.Sublist.cons_cons _ (List.nil_sublist _))))) (fun f hf => hf) ?_
            refine LO_v rfl rfl rfl rfl (V_move rfl rfl) ?_
            refine LO_v rfl rfl rfl rfl (V_extract rfl rfl rfl) ?_
            refine LO_v rfl rfl rfl rfl (V_extract rfl rfl rfl) ?_
            refine LO_s rfl rfl rfl (S_alloc rfl rfl rfl z45f (fun b4 => ⟨(Pk.of_sub (List.Sublist.cons_cons _ (List.Sublist.cons_cons _ (List.Sublist.cons_cons _ (List.nil_sublist _))))), (fun f hf => hf), ?_⟩))
            refine LO_s rfl rfl rfl (S_storeW 3 rfl rfl rfl rfl rfl (szd sz47f (by kernel_rfl)) (all_one (by kernel_rfl)) (by kernel_rfl) ⟨(Pk.of_sub (List.Sublist.cons_cons _ (List.Sublist.cons_cons _ (List.Sublist.cons_cons _ (List.nil_sublist _))))), (fun f hf => hf), ?_⟩)
            refine LO_s rfl rfl rfl (S_storeW 4 rfl rfl rfl rfl rfl (szd sz45f (by kernel_rfl)) (all_one (by kernel_rfl)) (by kernel_rfl) ⟨(Pk.of_sub (List.Sublist.cons_cons _ (List.Sublist.cons_cons _ (List.Sublist.cons_cons _ (List.nil_sublist _))))), (fun f hf => hf), ?_⟩)
            refine LO_nil ?_
            change J _ _ _ _
            refine J_seq ?_
            refine J_regionO (.pure 0 (.pure 1 (.one 2 (.one 3 (.pure 4 (.nil)))))) ([(b0, row 47 (ctM c m)), (b3, row 47 (ctM (turnC c (afterN c.target)) m)), (b4, row 45 (msM ((turnC c (afterN c.target)).msg) m))]) _ (Pk.of_sub (List.Sublist.cons_cons _ (List.Sublist.cons _ (List.Sublist.cons _ (List.Sublist.cons_cons _ (List.Sublist.cons_cons _ (List.nil_sublist _))))))) (fun f hf => hf) rfl rfl (by kernel_rfl) ?_
            refine LO_v rfl rfl rfl rfl (V_loadT 1 (vs := ctM (turnC c (afterN c.target)) m) rfl rfl rfl Try.underlying47 rfl sz47f (by kernel_rfl) (by kernel_rfl)) ?_
            refine LO_v rfl rfl rfl rfl (V_loadT 2 (vs := msM ((turnC c (afterN c.target)).msg) m) rfl rfl rfl Try.underlying45 rfl sz45f (by kernel_rfl) (by kernel_rfl)) ?_
            refine LO_s rfl rfl rfl (S_storeW 1 rfl rfl rfl rfl rfl (szd sz47f (by kernel_rfl)) (all_one (by kernel_rfl)) (by kernel_rfl) ⟨(Pk.of_sub (List.Sublist.cons_cons _ (List.Sublist.cons _ (List.Sublist.cons _ (List.Sublist.cons_cons _ (List.Sublist.cons_cons _ (List.nil_sublist _))))))), (fun f hf => hf), ?_⟩)
            refine LO_s rfl rfl rfl (S_storeW 2 rfl rfl rfl rfl rfl (szd sz45f (by kernel_rfl)) (all_one (by kernel_rfl)) (by kernel_rfl) ⟨(Pk.of_sub (List.Sublist.cons_cons _ (List.Sublist.cons _ (List.Sublist.cons _ (List.Sublist.cons_cons _ (List.Sublist.cons_cons _ (List.nil_sublist _))))))), (fun f hf => hf), ?_⟩)
            refine LO_v rfl rfl rfl rfl (V_assign rfl rfl) ?_
            refine LO_nil ?_
            change J _ _ _ _
            refine J_ret ?_
            change Kret _ _ _ Exit.ret _
            refine ret3 rfl rfl (RV_c 1 rfl rfl Try.underlying47 rfl (szd sz47f (by kernel_rfl))) (RV_c 2 rfl rfl Try.underlying45 rfl (szd sz45f (by kernel_rfl))) (RV_t rfl) ?_
            exact fun w' h => ⟨by have hk : retK c = 2 := (by unfold retK; rw [if_pos hr, if_pos (by simpa using h2)]); unfold retC retX retS retT retE; rw [hk]; rfl, h.fr⟩
          ·
            refine LO_s rfl rfl rfl (S_alloc rfl rfl rfl z45f (fun b4 => ⟨(Pk.of_sub (List.Sublist.cons_cons _ (List.Sublist.cons_cons _ (List.Sublist.cons_cons _ (List.nil_sublist _))))), (fun f hf => hf), ?_⟩))
            refine LO_callV rfl rfl rfl rfl rfl rfl rfl rfl tx29f (fun w1 hw => turn_w c m _ w1 ⟨i7, i8⟩) (Pk.of_sub (List.Sublist.cons_cons _ (List.Sublist.cons_cons _ (List.Sublist.cons_cons _ (List.nil_sublist _))))) (fun f hf => hf) ?_
            refine LO_v rfl rfl rfl rfl (V_move rfl rfl) ?_
            refine LO_v rfl rfl rfl rfl (V_extract rfl rfl rfl) ?_
            refine LO_v rfl rfl rfl rfl (V_extract rfl rfl rfl) ?_
            refine LO_s rfl rfl rfl (S_storeW 3 rfl rfl rfl rfl rfl (szd sz47f (by kernel_rfl)) (all_one (by kernel_rfl)) (by kernel_rfl) ⟨(Pk.of_sub (List.Sublist.cons_cons _ (List.Sublist.cons_cons _ (List.Sublist.cons_cons _ (List.nil_sublist _))))), (fun f hf => hf), ?_⟩)
            refine LO_s rfl rfl rfl (S_storeW 4 rfl rfl rfl rfl rfl (szd sz45f (by kernel_rfl)) (all_one (by kernel_rfl)) (by kernel_rfl) ⟨(Pk.of_sub (List.Sublist.cons_cons _ (List.Sublist.cons_cons _ (List.Sublist.cons_cons _ (List.nil_sublist _))))), (fun f hf => hf), ?_⟩)
            refine LO_nil ?_
            change J _ _ _ _
            refine J_seq ?_
            refine J_regionO (.pure 0 (.pure 1 (.one 2 (.one 3 (.pure 4 (.nil)))))) ([(b0, row 47 (ctM c m)), (b3, row 47 (ctM (turnC c (afterN c.target)) m)), (b4, row 45 (msM ((turnC c (afterN c.target)).msg) m))]) _ (Pk.of_sub (List.Sublist.cons_cons _ (List.Sublist.cons _ (List.Sublist.cons _ (List.Sublist.cons_cons _ (List.Sublist.cons_cons _ (List.nil_sublist _))))))) (fun f hf => hf) rfl rfl (by kernel_rfl) ?_
            refine LO_v rfl rfl rfl rfl (V_loadT 1 (vs := ctM (turnC c (afterN c.target)) m) rfl rfl rfl Try.underlying47 rfl sz47f (by kernel_rfl) (by kernel_rfl)) ?_
            refine LO_v rfl rfl rfl rfl (V_loadT 2 (vs := msM ((turnC c (afterN c.target)).msg) m) rfl rfl rfl Try.underlying45 rfl sz45f (by kernel_rfl) (by kernel_rfl)) ?_
            refine LO_s rfl rfl rfl (S_storeW 1 rfl rfl rfl rfl rfl (szd sz47f (by kernel_rfl)) (all_one (by kernel_rfl)) (by kernel_rfl) ⟨(Pk.of_sub (List.Sublist.cons_cons _ (List.Sublist.cons _ (List.Sublist.cons _ (List.Sublist.cons_cons _ (List.Sublist.cons_cons _ (List.nil_sublist _))))))), (fun f hf => hf), ?_⟩)
            refine LO_s rfl rfl rfl (S_storeW 2 rfl rfl rfl rfl rfl (szd sz45f (by kernel_rfl)) (all_one (by kernel_rfl)) (by kernel_rfl) ⟨(Pk.of_sub (List.Sublist.cons_cons _ (List.Sublist.cons _ (List.Sublist.cons _ (List.Sublist.cons_cons _ (List.Sublist.cons_cons _ (List.nil_sublist _))))))), (fun f hf => hf), ?_⟩)
            refine LO_v rfl rfl rfl rfl (V_assign rfl rfl) ?_
            refine LO_nil ?_
            change J _ _ _ _
            refine J_ret ?_
            change Kret _ _ _ Exit.ret _
            refine ret3 rfl rfl (RV_c 1 rfl rfl Try.underlying47 rfl (szd sz47f (by kernel_rfl))) (RV_c 2 rfl rfl Try.underlying45 rfl (szd sz45f (by kernel_rfl))) (RV_t rfl) ?_
            exact fun w' h => ⟨by have hk : retK c = 2 := (by unfold retK; rw [if_pos hr, if_pos (by simpa using h2)]); unfold retC retX retS retT retE; rw [hk]; rfl, h.fr⟩
        ·
          refine LO_s rfl rfl rfl (S_alloc rfl rfl rfl z45f (fun b3 => ⟨(Pk.of_sub (List.Sublist.cons_cons _ (List.Sublist.cons_cons _ (List.Sublist.cons_cons _ (List.nil_sublist _))))), (fun f hf => hf), ?_⟩))
          refine LO_both ?_ ?_
          ·
            refine LO_callV rfl rfl rfl rfl rfl rfl rfl rfl tx29f (fun w1 hw => turn_w c m _ w1 ⟨i7, i8⟩) (Pk.of_sub (List.Sublist.cons_cons _ (List.Sublist.cons_cons _ (List.Sublist.cons_cons _ (List.nil_sublist _))))) (fun f hf => hf) ?_
            refine LO_v rfl rfl rfl rfl (V_move rfl rfl) ?_
            refine LO_v rfl rfl rfl rfl (V_extract rfl rfl rfl) ?_
            refine LO_v rfl rfl rfl rfl (V_extract rfl rfl rfl) ?_
            refine LO_s rfl rfl rfl (S_alloc rfl rfl rfl z47f (fun b4 => ⟨(Pk.of_sub (List.Sublist.cons_cons _ (List.Sublist.cons_cons _ (List.Sublist.cons_cons _ (List.nil_sublist _))))), (fun f hf => hf), ?_⟩))
            refine LO_s rfl rfl rfl (S_storeW 4 rfl rfl rfl rfl rfl (szd sz47f (by kernel_rfl)) (all_one (by kernel_rfl)) (by kernel_rfl) ⟨(Pk.of_sub (List.Sublist.cons_cons _ (List.Sublist.cons_cons _ (List.Sublist.cons_cons _ (List.nil_sublist _))))), (fun f hf => hf), ?_⟩)
            refine LO_s rfl rfl rfl (S_storeW 3 rfl rfl rfl rfl rfl (szd sz45f (by kernel_rfl)) (all_one (by kernel_rfl)) (by kernel_rfl) ⟨(Pk.of_sub (List.Sublist.cons_cons _ (List.Sublist.cons_cons _ (List.Sublist.cons_cons _ (List.nil_sublist _))))), (fun f hf => hf), ?_⟩)
            refine LO_nil ?_
            change J _ _ _ _
            refine J_seq ?_
            refine J_regionO (.pure 0 (.pure 1 (.one 2 (.one 3 (.pure 4 (.nil)))))) ([(b0, row 47 (ctM c m)), (b3, row 45 (msM ((turnC c (afterN c.target)).msg) m)), (b4, row 47 (ctM (turnC c (afterN c.target)) m))]) _ (Pk.of_sub (List.Sublist.cons_cons _ (List.Sublist.cons _ (List.Sublist.cons _ (List.Sublist.cons_cons _ (List.Sublist.cons_cons _ (List.nil_sublist _))))))) (fun f hf => hf) rfl rfl (by kernel_rfl) ?_
            refine LO_v rfl rfl rfl rfl (V_loadT 2 (vs := ctM (turnC c (afterN c.target)) m) rfl rfl rfl Try.underlying47 rfl sz47f (by kernel_rfl) (by kernel_rfl)) ?_
            refine LO_v rfl rfl rfl rfl (V_loadT 1 (vs := msM ((turnC c (afterN c.target)).msg) m) rfl rfl rfl Try.underlying45 rfl sz45f (by kernel_rfl) (by kernel_rfl)) ?_
            refine LO_s rfl rfl rfl (S_storeW 1 rfl rfl rfl rfl rfl (szd sz47f (by kernel_rfl)) (all_one (by kernel_rfl)) (by kernel_rfl) ⟨(Pk.of_sub (List.Sublist.cons_cons _ (List.Sublist.cons _ (List.Sublist.cons _ (List.Sublist.cons_cons _ (List.Sublist.cons_cons _ (List.nil_sublist _))))))), (fun f hf => hf), ?_⟩)
            refine LO_s rfl rfl rfl (S_storeW 2 rfl rfl rfl rfl rfl (szd sz45f (by kernel_rfl)) (all_one (by kernel_rfl)) (by kernel_rfl) ⟨(Pk.of_sub (List.Sublist.cons_cons _ (List.Sublist.cons _ (List.Sublist.cons _ (List.Sublist.cons_cons _ (List.Sublist.cons_cons _ (List.nil_sublist _))))))), (fun f hf => hf), ?_⟩)
            refine LO_v rfl rfl rfl rfl (V_assign rfl rfl) ?_
            refine LO_nil ?_
            change J _ _ _ _
            refine J_ret ?_
            change Kret _ _ _ Exit.ret _
            refine ret3 rfl rfl (RV_c 1 rfl rfl Try.underlying47 rfl (szd sz47f (by kernel_rfl))) (RV_c 2 rfl rfl Try.underlying45 rfl (szd sz45f (by kernel_rfl))) (RV_t rfl) ?_
            exact fun w' h => ⟨by have hk : retK c = 2 := (by unfold retK; rw [if_pos hr, if_pos (by simpa using h2)]); unfold retC retX retS retT retE; rw [hk]; rfl, h.fr⟩
          ·
            refine LO_s rfl rfl rfl (S_alloc rfl rfl rfl z47f (fun b4 => ⟨(Pk.of_sub (List.Sublist.cons_cons _ (List.Sublist.cons_cons _ (List.Sublist.cons_cons _ (List.nil_sublist _))))), (fun f hf => hf), ?_⟩))
            refine LO_callV rfl rfl rfl rfl rfl rfl rfl rfl tx29f (fun w1 hw => turn_w c m _ w1 ⟨i7, i8⟩) (Pk.of_sub (List.Sublist.cons_cons _ (List.Sublist.cons_cons _ (List.Sublist.cons_cons _ (List.nil_sublist _))))) (fun f hf => hf) ?_
            refine LO_v rfl rfl rfl rfl (V_move rfl rfl) ?_
            refine LO_v rfl rfl rfl rfl (V_extract rfl rfl rfl) ?_
            refine LO_v rfl rfl rfl rfl (V_extract rfl rfl rfl) ?_
            refine LO_s rfl rfl rfl (S_storeW 4 rfl rfl rfl rfl rfl (szd sz47f (by kernel_rfl)) (all_one (by kernel_rfl)) (by kernel_rfl) ⟨(Pk.of_sub (List.Sublist.cons_cons _ (List.Sublist.cons_cons _ (List.Sublist.cons_cons _ (List.nil_sublist _))))), (fun f hf => hf), ?_⟩)
            refine LO_s rfl rfl rfl (S_storeW 3 rfl rfl rfl rfl rfl (szd sz45f (by kernel_rfl)) (all_one (by kernel_rfl)) (by kernel_rfl) ⟨(Pk.of_sub (List.Sublist.cons_cons _ (List.Sublist.cons_cons _ (List.Sublist.cons_cons _ (List.nil_sublist _))))), (fun f hf => hf), ?_⟩)
            refine LO_nil ?_
            change J _ _ _ _
            refine J_seq ?_
            refine J_regionO (.pure 0 (.pure 1 (.one 2 (.one 3 (.pure 4 (.nil)))))) ([(b0, row 47 (ctM c m)), (b3, row 45 (msM ((turnC c (afterN c.target)).msg) m)), (b4, row 47 (ctM (turnC c (afterN c.target)) m))]) _ (Pk.of_sub (List.Sublist.cons_cons _ (List.Sublist.cons _ (List.Sublist.cons _ (List.Sublist.cons_cons _ (List.Sublist.cons_cons _ (List.nil_sublist _))))))) (fun f hf => hf) rfl rfl (by kernel_rfl) ?_
            refine LO_v rfl rfl rfl rfl (V_loadT 2 (vs := ctM (turnC c (afterN c.target)) m) rfl rfl rfl Try.underlying47 rfl sz47f (by kernel_rfl) (by kernel_rfl)) ?_
            refine LO_v rfl rfl rfl rfl (V_loadT 1 (vs := msM ((turnC c (afterN c.target)).msg) m) rfl rfl rfl Try.underlying45 rfl sz45f (by kernel_rfl) (by kernel_rfl)) ?_
            refine LO_s rfl rfl rfl (S_storeW 1 rfl rfl rfl rfl rfl (szd sz47f (by kernel_rfl)) (all_one (by kernel_rfl)) (by kernel_rfl) ⟨(Pk.of_sub (List.Sublist.cons_cons _ (List.Sublist.cons _ (List.Sublist.cons _ (List.Sublist.cons_cons _ (List.Sublist.cons_cons _ (List.nil_sublist _))))))), (fun f hf => hf), ?_⟩)
            refine LO_s rfl rfl rfl (S_storeW 2 rfl rfl rfl rfl rfl (szd sz45f (by kernel_rfl)) (all_one (by kernel_rfl)) (by kernel_rfl) ⟨(Pk.of_sub (List.Sublist.cons_cons _ (List.Sublist.cons _ (List.Sublist.cons _ (List.Sublist.cons_cons _ (List.Sublist.cons_cons _ (List.nil_sublist _))))))), (fun f hf => hf), ?_⟩)
            refine LO_v rfl rfl rfl rfl (V_assign rfl rfl) ?_
            refine LO_nil ?_
            change J _ _ _ _
            refine J_ret ?_
            change Kret _ _ _ Exit.ret _
            refine ret3 rfl rfl (RV_c 1 rfl rfl Try.underlying47 rfl (szd sz47f (by kernel_rfl))) (RV_c 2 rfl rfl Try.underlying45 rfl (szd sz45f (by kernel_rfl))) (RV_t rfl) ?_
            exact fun w' h => ⟨by have hk : retK c = 2 := (by unfold retK; rw [if_pos hr, if_pos (by simpa using h2)]); unfold retC retX retS retT retE; rw [hk]; rfl, h.fr⟩
      ·
        refine LO_s rfl rfl rfl (S_alloc rfl rfl rfl z47f (fun b3 => ⟨(Pk.of_sub (List.Sublist.cons_cons _ (List.Sublist.cons_cons _ (List.Sublist.cons_cons _ (List.nil_sublist _))))), (fun f hf => hf), ?_⟩))
        refine LO_both ?_ ?_
        ·
          refine LO_callV rfl rfl rfl rfl rfl rfl rfl rfl tx28f (fun w1 hw => next_w _ w1 ⟨i5, i6⟩) (Pk.of_sub (List.Sublist.cons_cons _ (List.Sublist.cons_cons _ (List.Sublist.cons_cons _ (List.nil_sublist _))))) (fun f hf => hf) ?_
          refine LO_both ?_ ?_
          ·
            refine LO_callV rfl rfl rfl rfl rfl rfl rfl rfl tx29f (fun w1 hw => turn_w c m _ w1 ⟨i7, i8⟩) (Pk.of_sub (List.Sublist.cons_cons _ (List.Sublist.cons_cons _ (List.Sublist.cons_cons _ (List.nil_sublist _))))) (fun f hf => hf) ?_
            refine LO_v rfl rfl rfl rfl (V_move rfl rfl) ?_
            refine LO_v rfl rfl rfl rfl (V_extract rfl rfl rfl) ?_
            refine LO_v rfl rfl rfl rfl (V_extract rfl rfl rfl) ?_
            refine LO_s rfl rfl rfl (S_alloc rfl rfl rfl z45f (fun b4 => ⟨(Pk.of_sub (List.Sublist.cons_cons _ (List.Sublist.cons_cons _ (List.Sublist.cons_cons _ (List.nil_sublist _))))), (fun f hf => hf), ?_⟩))
            refine LO_s rfl rfl rfl (S_storeW 3 rfl rfl rfl rfl rfl (szd sz47f (by kernel_rfl)) (all_one (by kernel_rfl)) (by kernel_rfl) ⟨(Pk.of_sub (List.Sublist.cons_cons _ (List.Sublist.cons_cons _ (List.Sublist.cons_cons _ (List.nil_sublist _))))), (fun f hf => hf), ?_⟩)
            refine LO_s rfl rfl rfl (S_storeW 4 rfl rfl rfl rfl rfl (szd sz45f (by kernel_rfl)) (all_one (by kernel_rfl)) (by kernel_rfl) ⟨(Pk.of_sub (List.Sublist.cons_cons _ (List.Sublist.cons_cons _ (List.Sublist.cons_cons _ (List.nil_sublist _))))), (fun f hf => hf), ?_⟩)
            refine LO_nil ?_
            change J _ _ _ _
            refine J_seq ?_
            refine J_regionO (.pure 0 (.pure 1 (.one 2 (.one 3 (.pure 4 (.nil)))))) ([(b0, row 47 (ctM c m)), (b3, row 47 (ctM (turnC c (afterN c.target)) m)), (b4, row 45 (msM ((turnC c (afterN c.target)).msg) m))]) _ (Pk.of_sub (List.Sublist.cons_cons _ (List.Sublist.cons _ (List.Sublist.cons _ (List.Sublist.cons_cons _ (List.Sublist.cons_cons _ (List.nil_sublist _))))))) (fun f hf => hf) rfl rfl (by kernel_rfl) ?_
            refine LO_v rfl rfl rfl rfl (V_loadT 1 (vs := ctM (turnC c (afterN c.target)) m) rfl rfl rfl Try.underlying47 rfl sz47f (by kernel_rfl) (by kernel_rfl)) ?_
            refine LO_v rfl rfl rfl rfl (V_loadT 2 (vs := msM ((turnC c (afterN c.target)).msg) m) rfl rfl rfl Try.underlying45 rfl sz45f (by kernel_rfl) (by kernel_rfl)) ?_
            refine LO_s rfl rfl rfl (S_storeW 1 rfl rfl rfl rfl rfl (szd sz47f (by kernel_rfl)) (all_one (by kernel_rfl)) (by kernel_rfl) ⟨(Pk.of_sub (List.Sublist.cons_cons _ (List.Sublist.cons _ (List.Sublist.cons _ (List.Sublist.cons_cons _ (List.Sublist.cons_cons _ (List.nil_sublist _))))))), (fun f hf => hf), ?_⟩)
            refine LO_s rfl rfl rfl (S_storeW 2 rfl rfl rfl rfl rfl (szd sz45f (by kernel_rfl)) (all_one (by kernel_rfl)) (by kernel_rfl) ⟨(Pk.of_sub (List.Sublist.cons_cons _ (List.Sublist.cons _ (List.Sublist.cons _ (List.Sublist.cons_cons _ (List.Sublist.cons_cons _ (List.nil_sublist _))))))), (fun f hf => hf), ?_⟩)
            refine LO_v rfl rfl rfl rfl (V_assign rfl rfl) ?_
            refine LO_nil ?_
            change J _ _ _ _
            refine J_ret ?_
            change Kret _ _ _ Exit.ret _
            refine ret3 rfl rfl (RV_c 1 rfl rfl Try.underlying47 rfl (szd sz47f (by kernel_rfl))) (RV_c 2 rfl rfl Try.underlying45 rfl (szd sz45f (by kernel_rfl))) (RV_t rfl) ?_
            exact fun w' h => ⟨by have hk : retK c = 2 := (by unfold retK; rw [if_pos hr, if_pos (by simpa using h2)]); unfold retC retX retS retT retE; rw [hk]; rfl, h.fr⟩
          ·
            refine LO_s rfl rfl rfl (S_alloc rfl rfl rfl z45f (fun b4 => ⟨(Pk.of_sub (List.Sublist.cons_cons _ (List.Sublist.cons_cons _ (List.Sublist.cons_cons _ (List.nil_sublist _))))), (fun f hf => hf), ?_⟩))
            refine LO_callV rfl rfl rfl rfl rfl rfl rfl rfl tx29f (fun w1 hw => turn_w c m _ w1 ⟨i7, i8⟩) (Pk.of_sub (List.Sublist.cons_cons _ (List.Sublist.cons_cons _ (List.Sublist.cons_cons _ (List.nil_sublist _))))) (fun f hf => hf) ?_
            refine LO_v rfl rfl rfl rfl (V_move rfl rfl) ?_
            refine LO_v rfl rfl rfl rfl (V_extract rfl rfl rfl) ?_
            refine LO_v rfl rfl rfl rfl (V_extract rfl rfl rfl) ?_
            refine LO_s rfl rfl rfl (S_storeW 3 rfl rfl rfl rfl rfl (szd sz47f (by kernel_rfl)) (all_one (by kernel_rfl)) (by kernel_rfl) ⟨(Pk.of_sub (List.Sublist.cons_cons _ (List.Sublist.cons_cons _ (List.Sublist.cons_cons _ (List.nil_sublist _))))), (fun f hf => hf), ?_⟩)
            refine LO_s rfl rfl rfl (S_storeW 4 rfl rfl rfl rfl rfl (szd sz45f (by kernel_rfl)) (all_one (by kernel_rfl)) (by kernel_rfl) ⟨(Pk.of_sub (List.Sublist.cons_cons _ (List.Sublist.cons_cons _ (List.Sublist.cons_cons _ (List.nil_sublist _))))), (fun f hf => hf), ?_⟩)
            refine LO_nil ?_
            change J _ _ _ _
            refine J_seq ?_
            refine J_regionO (.pure 0 (.pure 1 (.one 2 (.one 3 (.pure 4 (.nil)))))) ([(b0, row 47 (ctM c m)), (b3, row 47 (ctM (turnC c (afterN c.target)) m)), (b4, row 45 (msM ((turnC c (afterN c.target)).msg) m))]) _ (Pk.of_sub (List.Sublist.cons_cons _ (List.Sublist.cons _ (List.Sublist.cons _ (List.Sublist.cons_cons _ (List.Sublist.cons_cons _ (List.nil_sublist _))))))) (fun f hf => hf) rfl rfl (by kernel_rfl) ?_
            refine LO_v rfl rfl rfl rfl (V_loadT 1 (vs := ctM (turnC c (afterN c.target)) m) rfl rfl rfl Try.underlying47 rfl sz47f (by kernel_rfl) (by kernel_rfl)) ?_
            refine LO_v rfl rfl rfl rfl (V_loadT 2 (vs := msM ((turnC c (afterN c.target)).msg) m) rfl rfl rfl Try.underlying45 rfl sz45f (by kernel_rfl) (by kernel_rfl)) ?_
            refine LO_s rfl rfl rfl (S_storeW 1 rfl rfl rfl rfl rfl (szd sz47f (by kernel_rfl)) (all_one (by kernel_rfl)) (by kernel_rfl) ⟨(Pk.of_sub (List.Sublist.cons_cons _ (List.Sublist.cons _ (List.Sublist.cons _ (List.Sublist.cons_cons _ (List.Sublist.cons_cons _ (List.nil_sublist _))))))), (fun f hf => hf), ?_⟩)
            refine LO_s rfl rfl rfl (S_storeW 2 rfl rfl rfl rfl rfl (szd sz45f (by kernel_rfl)) (all_one (by kernel_rfl)) (by kernel_rfl) ⟨(Pk.of_sub (List.Sublist.cons_cons _ (List.Sublist.cons _ (List.Sublist.cons _ (List.Sublist.cons_cons _ (List.Sublist.cons_cons _ (List.nil_sublist _))))))), (fun f hf => hf), ?_⟩)
            refine LO_v rfl rfl rfl rfl (V_assign rfl rfl) ?_
            refine LO_nil ?_
            change J _ _ _ _
            refine J_ret ?_
            change Kret _ _ _ Exit.ret _
            refine ret3 rfl rfl (RV_c 1 rfl rfl Try.underlying47 rfl (szd sz47f (by kernel_rfl))) (RV_c 2 rfl rfl Try.underlying45 rfl (szd sz45f (by kernel_rfl))) (RV_t rfl) ?_
            exact fun w' h => ⟨by have hk : retK c = 2 := (by unfold retK; rw [if_pos hr, if_pos (by simpa using h2)]); unfold retC retX retS retT retE; rw [hk]; rfl, h.fr⟩
        ·
          refine LO_s rfl rfl rfl (S_alloc rfl rfl rfl z45f (fun b4 => ⟨(Pk.of_sub (List.Sublist.cons_cons _ (List.Sublist.cons_cons _ (List.Sublist.cons_cons _ (List.nil_sublist _))))), (fun f hf => hf), ?_⟩))
          refine LO_callV rfl rfl rfl rfl rfl rfl rfl rfl tx28f (fun w1 hw => next_w _ w1 ⟨i5, i6⟩) (Pk.of_sub (List.Sublist.cons_cons _ (List.Sublist.cons_cons _ (List.Sublist.cons_cons _ (List.nil_sublist _))))) (fun f hf => hf) ?_
          refine LO_callV rfl rfl rfl rfl rfl rfl rfl rfl tx29f (fun w1 hw => turn_w c m _ w1 ⟨i7, i8⟩) (Pk.of_sub (List.Sublist.cons_cons _ (List.Sublist.cons_cons _ (List.Sublist.cons_cons _ (List.nil_sublist _))))) (fun f hf => hf) ?_
          refine LO_v rfl rfl rfl rfl (V_move rfl rfl) ?_
          refine LO_v rfl rfl rfl rfl (V_extract rfl rfl rfl) ?_
          refine LO_v rfl rfl rfl rfl (V_extract rfl rfl rfl) ?_
          refine LO_s rfl rfl rfl (S_storeW 3 rfl rfl rfl rfl rfl (szd sz47f (by kernel_rfl)) (all_one (by kernel_rfl)) (by kernel_rfl) ⟨(Pk.of_sub (List.Sublist.cons_cons _ (List.Sublist.cons_cons _ (List.Sublist.cons_cons _ (List.nil_sublist _))))), (fun f hf => hf), ?_⟩)
          refine LO_s rfl rfl rfl (S_storeW 4 rfl rfl rfl rfl rfl (szd sz45f (by kernel_rfl)) (all_one (by kernel_rfl)) (by kernel_rfl) ⟨(Pk.of_sub (List.Sublist.cons_cons _ (List.Sublist.cons_cons _ (List.Sublist.cons_cons _ (List.nil_sublist _))))), (fun f hf => hf), ?_⟩)
          refine LO_nil ?_
          change J _ _ _ _
          refine J_seq ?_
          refine J_regionO (.pure 0 (.pure 1 (.one 2 (.one 3 (.pure 4 (.nil)))))) ([(b0, row 47 (ctM c m)), (b3, row 47 (ctM (turnC c (afterN c.target)) m)), (b4, row 45 (msM ((turnC c (afterN c.target)).msg) m))]) _ (Pk.of_sub (List.Sublist.cons_cons _ (List.Sublist.cons _ (List.Sublist.cons _ (List.Sublist.cons_cons _ (List.Sublist.cons_cons _ (List.nil_sublist _))))))) (fun f hf => hf) rfl rfl (by kernel_rfl) ?_
          refine LO_v rfl rfl rfl rfl (V_loadT 1 (vs := ctM (turnC c (afterN c.target)) m) rfl rfl rfl Try.underlying47 rfl sz47f (by kernel_rfl) (by kernel_rfl)) ?_
          refine LO_v rfl rfl rfl rfl (V_loadT 2 (vs := msM ((turnC c (afterN c.target)).msg) m) rfl rfl rfl Try.underlying45 rfl sz45f (by kernel_rfl) (by kernel_rfl)) ?_
          refine LO_s rfl rfl rfl (S_storeW 1 rfl rfl rfl rfl rfl (szd sz47f (by kernel_rfl)) (all_one (by kernel_rfl)) (by kernel_rfl) ⟨(Pk.of_sub (List.Sublist.cons_cons _ (List.Sublist.cons _ (List.Sublist.cons _ (List.Sublist.cons_cons _ (List.Sublist.cons_cons _ (List.nil_sublist _))))))), (fun f hf => hf), ?_⟩)
          refine LO_s rfl rfl rfl (S_storeW 2 rfl rfl rfl rfl rfl (szd sz45f (by kernel_rfl)) (all_one (by kernel_rfl)) (by kernel_rfl) ⟨(Pk.of_sub (List.Sublist.cons_cons _ (List.Sublist.cons _ (List.Sublist.cons _ (List.Sublist.cons_cons _ (List.Sublist.cons_cons _ (List.nil_sublist _))))))), (fun f hf => hf), ?_⟩)
          refine LO_v rfl rfl rfl rfl (V_assign rfl rfl) ?_
          refine LO_nil ?_
          change J _ _ _ _
          refine J_ret ?_
          change Kret _ _ _ Exit.ret _
          refine ret3 rfl rfl (RV_c 1 rfl rfl Try.underlying47 rfl (szd sz47f (by kernel_rfl))) (RV_c 2 rfl rfl Try.underlying45 rfl (szd sz45f (by kernel_rfl))) (RV_t rfl) ?_
          exact fun w' h => ⟨by have hk : retK c = 2 := (by unfold retK; rw [if_pos hr, if_pos (by simpa using h2)]); unfold retC retX retS retT retE; rw [hk]; rfl, h.fr⟩
      ·
        refine LO_s rfl rfl rfl (S_alloc rfl rfl rfl z45f (fun b3 => ⟨(Pk.of_sub (List.Sublist.cons_cons _ (List.Sublist.cons_cons _ (List.Sublist.cons_cons _ (List.nil_sublist _))))), (fun f hf => hf), ?_⟩))
        refine LO_both ?_ ?_
        ·
          refine LO_callV rfl rfl rfl rfl rfl rfl rfl rfl tx28f (fun w1 hw => next_w _ w1 ⟨i5, i6⟩) (Pk.of_sub (List.Sublist.cons_cons _ (List.Sublist.cons_cons _ (List.Sublist.cons_cons _ (List.nil_sublist _))))) (fun f hf => hf) ?_
          refine LO_both ?_ ?_
          ·
            refine LO_callV rfl rfl rfl rfl rfl rfl rfl rfl tx29f (fun w1 hw => turn_w c m _ w1 ⟨i7, i8⟩) (Pk.of_sub (List.Sublist.cons_cons _ (List.Sublist.cons_cons _ (List.Sublist.cons_cons _ (List.nil_sublist _))))) (fun f hf => hf) ?_
            refine LO_v rfl rfl rfl rfl (V_move rfl rfl) ?_
            refine LO_v rfl rfl rfl rfl (V_extract rfl rfl rfl) ?_
            refine LO_v rfl rfl rfl rfl (V_extract rfl rfl rfl) ?_
            refine LO_s rfl rfl rfl (S_alloc rfl rfl rfl z47f (fun b4 => ⟨(Pk.of_sub (List.Sublist.cons_cons _ (List.Sublist.cons_cons _ (List.Sublist.cons_cons _ (List.nil_sublist _))))), (fun f hf => hf), ?_⟩))
            refine LO_s rfl rfl rfl (S_storeW 4 rfl rfl rfl rfl rfl (szd sz47f (by kernel_rfl)) (all_one (by kernel_rfl)) (by kernel_rfl) ⟨(Pk.of_sub (List.Sublist.cons_cons _ (List.Sublist.cons_cons _ (List.Sublist.cons_cons _ (List.nil_sublist _))))), (fun f hf => hf), ?_⟩)
            refine LO_s rfl rfl rfl (S_storeW 3 rfl rfl rfl rfl rfl (szd sz45f (by kernel_rfl)) (all_one (by kernel_rfl)) (by kernel_rfl) ⟨(Pk.of_sub (List.Sublist.cons_cons _ (List.Sublist.cons_cons _ (List.Sublist.cons_cons _ (List.nil_sublist _))))), (fun f hf => hf), ?_⟩)
            refine LO_nil ?_
            change J _ _ _ _
            refine J_seq ?_
            refine J_regionO (.pure 0 (.pure 1 (.one 2 (.one 3 (.pure 4 (.nil)))))) ([(b0, row 47 (ctM c m)), (b3, row 45 (msM ((turnC c (afterN c.target)).msg) m)), (b4, row 47 (ctM (turnC c (afterN c.target)) m))]) _ (Pk.of_sub (List.Sublist.cons_cons _ (List.Sublist.cons _ (List.Sublist.cons _ (List.Sublist.cons_cons _ (List.Sublist.cons_cons _ (List.nil_sublist _))))))) (fun f hf => hf) rfl rfl (by kernel_rfl) ?_
            refine LO_v rfl rfl rfl rfl (V_loadT 2 (vs := ctM (turnC c (afterN c.target)) m) rfl rfl rfl Try.underlying47 rfl sz47f (by kernel_rfl) (by kernel_rfl)) ?_
            refine LO_v rfl rfl rfl rfl (V_loadT 1 (vs := msM ((turnC c (afterN c.target)).msg) m) rfl rfl rfl Try.underlying45 rfl sz45f (by kernel_rfl) (by kernel_rfl)) ?_
            refine LO_s rfl rfl rfl (S_storeW 1 rfl rfl rfl rfl rfl (szd sz47f (by kernel_rfl)) (all_one (by kernel_rfl)) (by kernel_rfl) ⟨(Pk.of_sub (List.Sublist.cons_cons _ (List.Sublist.cons _ (List.Sublist.cons _ (List.Sublist.cons_cons _ (List.Sublist.cons_cons _ (List.nil_sublist _))))))), (fun f hf => hf), ?_⟩)
            refine LO_s rfl rfl rfl (S_storeW 2 rfl rfl rfl rfl rfl (szd sz45f (by kernel_rfl)) (all_one (by kernel_rfl)) (by kernel_rfl) ⟨(Pk.of_sub (List.Sublist.cons_cons _ (List.Sublist.cons _ (List.Sublist.cons _ (List.Sublist.cons_cons _ (List.Sublist.cons_cons _ (List.nil_sublist _))))))), (fun f hf => hf), ?_⟩)
            refine LO_v rfl rfl rfl rfl (V_assign rfl rfl) ?_
            refine LO_nil ?_
            change J _ _ _ _
            refine J_ret ?_
            change Kret _ _ _ Exit.ret _
            refine ret3 rfl rfl (RV_c 1 rfl rfl Try.underlying47 rfl (szd sz47f (by kernel_rfl))) (RV_c 2 rfl rfl Try.underlying45 rfl (szd sz45f (by kernel_rfl))) (RV_t rfl) ?_
            exact fun w' h => ⟨by have hk : retK c = 2 := (by unfold retK; rw [if_pos hr, if_pos (by simpa using h2)]); unfold retC retX retS retT retE; rw [hk]; rfl, h.fr⟩
          ·
            refine LO_s rfl rfl rfl (S_alloc rfl rfl rfl z47f (fun b4 => ⟨(Pk.of_sub (List.Sublist.cons_cons _ (List.Sublist.cons_cons _ (List.Sublist.cons_cons _ (List.nil_sublist _))))), (fun f hf => hf), ?_⟩))
            refine LO_callV rfl rfl rfl rfl rfl rfl rfl rfl tx29f (fun w1 hw => turn_w c m _ w1 ⟨i7, i8⟩) (Pk.of_sub (List.Sublist.cons_cons _ (List.Sublist.cons_cons _ (List.Sublist.cons_cons _ (List.nil_sublist _))))) (fun f hf => hf) ?_
            refine LO_v rfl rfl rfl rfl (V_move rfl rfl) ?_
            refine LO_v rfl rfl rfl rfl (V_extract rfl rfl rfl) ?_
            refine LO_v rfl rfl rfl rfl (V_extract rfl rfl rfl) ?_
            refine LO_s rfl rfl rfl (S_storeW 4 rfl rfl rfl rfl rfl (szd sz47f (by kernel_rfl)) (all_one (by kernel_rfl)) (by kernel_rfl) ⟨(Pk.of_sub (List.Sublist.cons_cons _ (List.Sublist.cons_cons _ (List.Sublist.cons_cons _ (List.nil_sublist _))))), (fun f hf => hf), ?_⟩)
            refine LO_s rfl rfl rfl (S_storeW 3 rfl rfl rfl rfl rfl (szd sz45f (by kernel_rfl)) (all_one (by kernel_rfl)) (by kernel_rfl) ⟨(Pk.of_sub (List.Sublist.cons_cons _ (List.Sublist.cons_cons _ (List.Sublist.cons_cons _ (List.nil_sublist _))))), (fun f hf => hf), ?_⟩)
            refine LO_nil ?_
            change J _ _ _ _
            refine J_seq ?_
            refine J_regionO (.pure 0 (.pure 1 (.one 2 (.one 3 (.pure 4 (.nil)))))) ([(b0, row 47 (ctM c m)), (b3, row 45 (msM ((turnC c (afterN c.target)).msg) m)), (b4, row 47 (ctM (turnC c (afterN c.target)) m))]) _ (Pk.of_sub (List.Sublist.cons_cons _ (List.Sublist.cons _ (List.Sublist.cons _ (List.Sublist.cons_cons _ (List.Sublist.cons_cons _ (List.nil_sublist _))))))) (fun f hf => hf) rfl rfl (by kernel_rfl) ?_
            refine LO_v rfl rfl rfl rfl (V_loadT 2 (vs := ctM (turnC c (afterN c.target)) m) rfl rfl rfl Try.underlying47 rfl sz47f (by kernel_rfl) (by kernel_rfl)) ?_
            refine LO_v rfl rfl rfl rfl (V_loadT 1 (vs := msM ((turnC c (afterN c.target)).msg) m) rfl rfl rfl Try.underlying45 rfl sz45f (by kernel_rfl) (by kernel_rfl)) ?_
            refine LO_s rfl rfl rfl (S_storeW 1 rfl rfl rfl rfl rfl (szd sz47f (by kernel_rfl)) (all_one (by kernel_rfl)) (by kernel_rfl) ⟨(Pk.of_sub (List.Sublist.cons_cons _ (List.Sublist.cons _ (List.Sublist.cons _ (List.Sublist.cons_cons _ (List.Sublist.cons_cons _ (List.nil_sublist _))))))), (fun f hf => hf), ?_⟩)
            refine LO_s rfl rfl rfl (S_storeW 2 rfl rfl rfl rfl rfl (szd sz45f (by kernel_rfl)) (all_one (by kernel_rfl)) (by kernel_rfl) ⟨(Pk.of_sub (List.Sublist.cons_cons _ (List.Sublist.cons _ (List.Sublist.cons _ (List.Sublist.cons_cons _ (List.Sublist.cons_cons _ (List.nil_sublist _))))))), (fun f hf => hf), ?_⟩)
            refine LO_v rfl rfl rfl rfl (V_assign rfl rfl) ?_
            refine LO_nil ?_
            change J _ _ _ _
            refine J_ret ?_
            change Kret _ _ _ Exit.ret _
            refine ret3 rfl rfl (RV_c 1 rfl rfl Try.underlying47 rfl (szd sz47f (by kernel_rfl))) (RV_c 2 rfl rfl Try.underlying45 rfl (szd sz45f (by kernel_rfl))) (RV_t rfl) ?_
            exact fun w' h => ⟨by have hk : retK c = 2 := (by unfold retK; rw [if_pos hr, if_pos (by simpa using h2)]); unfold retC retX retS retT retE; rw [hk]; rfl, h.fr⟩
        ·
          refine LO_s rfl rfl rfl (S_alloc rfl rfl rfl z47f (fun b4 => ⟨(Pk.of_sub (List.Sublist.cons_cons _ (List.Sublist.cons_cons _ (List.Sublist.cons_cons _ (List.nil_sublist _))))), (fun f hf => hf), ?_⟩))
          refine LO_callV rfl rfl rfl rfl rfl rfl rfl rfl tx28f (fun w1 hw => next_w _ w1 ⟨i5, i6⟩) (Pk.of_sub (List.Sublist.cons_cons _ (List.Sublist.cons_cons _ (List.Sublist.cons_cons _ (List.nil_sublist _))))) (fun f hf => hf) ?_
          refine LO_callV rfl rfl rfl rfl rfl rfl rfl rfl tx29f (fun w1 hw => turn_w c m _ w1 ⟨i7, i8⟩) (Pk.of_sub (List.Sublist.cons_cons _ (List.Sublist.cons_cons _ (List.Sublist.cons_cons _ (List.nil_sublist _))))) (fun f hf => hf) ?_
          refine LO_v rfl rfl rfl rfl (V_move rfl rfl) ?_
          refine LO_v rfl rfl rfl rfl (V_extract rfl rfl rfl) ?_
          refine LO_v rfl rfl rfl rfl (V_extract rfl rfl rfl) ?_
          refine LO_s rfl rfl rfl (S_storeW 4 rfl rfl rfl rfl rfl (szd sz47f (by kernel_rfl)) (all_one (by kernel_rfl)) (by kernel_rfl) ⟨(Pk.of_sub (List.Sublist.cons_cons _ (List.Sublist.cons_cons _ (List.Sublist.cons_cons _ (List.nil_sublist _))))), (fun f hf => hf), ?_⟩)
          refine LO_s rfl rfl rfl (S_storeW 3 rfl rfl rfl rfl rfl (szd sz45f (by kernel_rfl)) (all_one (by kernel_rfl)) (by kernel_rfl) ⟨(Pk.of_sub (List.Sublist.cons_cons _ (List.Sublist.cons_cons _ (List.Sublist.cons_cons _ (List.nil_sublist _))))), (fun f hf => hf), ?_⟩)
          refine LO_nil ?_
          change J _ _ _ _
          refine J_seq ?_
          refine J_regionO (.pure 0 (.pure 1 (.one 2 (.one 3 (.pure 4 (.nil)))))) ([(b0, row 47 (ctM c m)), (b3, row 45 (msM ((turnC c (afterN c.target)).msg) m)), (b4, row 47 (ctM (turnC c (afterN c.target)) m))]) _ (Pk.of_sub (List.Sublist.cons_cons _ (List.Sublist.cons _ (List.Sublist.cons _ (List.Sublist.cons_cons _ (List.Sublist.cons_cons _ (List.nil_sublist _))))))) (fun f hf => hf) rfl rfl (by kernel_rfl) ?_
          refine LO_v rfl rfl rfl rfl (V_loadT 2 (vs := ctM (turnC c (afterN c.target)) m) rfl rfl rfl Try.underlying47 rfl sz47f (by kernel_rfl) (by kernel_rfl)) ?_
          refine LO_v rfl rfl rfl rfl (V_loadT 1 (vs := msM ((turnC c (afterN c.target)).msg) m) rfl rfl rfl Try.underlying45 rfl sz45f (by kernel_rfl) (by kernel_rfl)) ?_
          refine LO_s rfl rfl rfl (S_storeW 1 rfl rfl rfl rfl rfl (szd sz47f (by kernel_rfl)) (all_one (by kernel_rfl)) (by kernel_rfl) ⟨(Pk.of_sub (List.Sublist.cons_cons _ (List.Sublist.cons _ (List.Sublist.cons _ (List.Sublist.cons_cons _ (List.Sublist.cons_cons _ (List.nil_sublist _))))))), (fun f hf => hf), ?_⟩)
          refine LO_s rfl rfl rfl (S_storeW 2 rfl rfl rfl rfl rfl (szd sz45f (by kernel_rfl)) (all_one (by kernel_rfl)) (by kernel_rfl) ⟨(Pk.of_sub (List.Sublist.cons_cons _ (List.Sublist.cons _ (List.Sublist.cons _ (List.Sublist.cons_cons _ (List.Sublist.cons_cons _ (List.nil_sublist _))))))), (fun f hf => hf), ?_⟩)
          refine LO_v rfl rfl rfl rfl (V_assign rfl rfl) ?_
          refine LO_nil ?_
          change J _ _ _ _
          refine J_ret ?_
          change Kret _ _ _ Exit.ret _
          refine ret3 rfl rfl (RV_c 1 rfl rfl Try.underlying47 rfl (szd sz47f (by kernel_rfl))) (RV_c 2 rfl rfl Try.underlying45 rfl (szd sz45f (by kernel_rfl))) (RV_t rfl) ?_
          exact fun w' h => ⟨by have hk : retK c = 2 := (by unfold retK; rw [if_pos hr, if_pos (by simpa using h2)]); unfold retC retX retS retT retE; rw [hk]; rfl, h.fr⟩

set_option maxHeartbeats 4000000 in
theorem hear21_w (c : Ct) (m : M5) (es : List EnV) (x : Ms) (n : M5) (w : World) (hx : c.msg.entries = es.map Prod.fst) (f1 : FA w (msF c.msg m es)) (hB : Sz c.msg es) :
    Calls Try.prog 9 #[.agg (ctM c m).toArray, .agg (msM x n).toArray] w fun e w' => e = .returned (.tuple #[.agg (ctM (hearC c x) (selM (hearS c x) m)).toArray, .agg (msM (hearX c x) (selM (hearT c x) m)).toArray, .bool (hearD c x), .int .i64 (hearE c x)]) ∧ Fr [] w w' := by
  refine calls_of (args := [.agg (ctM c m).toArray, .agg (msM x n).toArray]) ([]) ([]) ([msF c.msg m es]) Try.func9 rfl rfl (okFW (.cons f1 .nil)) ?_
  refine J_seq ?_
  refine J_region ?_
  refine L_box rfl rfl rfl rfl rfl (fun b0 => ?_)
  refine L_box rfl rfl rfl rfl rfl (fun b1 => ?_)
  refine L_alloc rfl rfl rfl rfl z47f (fun b2 => ?_)
  refine L_alloc rfl rfl rfl rfl z45f (fun b3 => ?_)
  refine L_v rfl rfl rfl (V_assign rfl rfl) ?_
  refine L_v rfl rfl rfl (V_assign rfl rfl) ?_
  refine L_nil ?_
  change J _ _ _ _
  refine J_seq ?_
  refine J_seq ?_
  refine J_region ?_
  refine L_v rfl rfl rfl (V_loadT 0 (vs := ctM c m) rfl rfl rfl Try.underlying47 rfl sz47f (by kernel_rfl) (by kernel_rfl)) ?_
  refine L_callV rfl rfl rfl rfl rfl rfl tx26f (fun w1 hw => right21_w c m es w1 hx (hw.fa 0 rfl) hB) ?_
  refine L_v rfl rfl rfl (V_not rfl rfl rfl) ?_
  refine L_nil ?_
  change J _ _ _ _
  refine J_cond rfl (fun h1 => ?_) (fun h1 => ?_)
  ·
    first | (have h1 := of_decide_eq_true h1) | (have h1 := of_decide_eq_false h1) | skip
    refine J_seq ?_
    refine J_region ?_
    refine L_v rfl rfl rfl (V_buildE (v := .agg (ctM ct0 m50).toArray) rfl rfl (fun w => by kernel_rfl)) ?_
    refine L_v rfl rfl rfl (V_buildE (v := .agg (msM ms0 m50).toArray) rfl rfl (fun w => by kernel_rfl)) ?_
    refine L_storeW 2 rfl rfl rfl rfl rfl rfl (szd sz47f (by kernel_rfl)) (all_one (by kernel_rfl)) (by kernel_rfl) ?_
    refine L_storeW 3 rfl rfl rfl rfl rfl rfl (szd sz45f (by kernel_rfl)) (all_one (by kernel_rfl)) (by kernel_rfl) ?_
    refine L_v rfl rfl rfl (V_assign rfl rfl) ?_
    refine L_v rfl rfl rfl (V_assign rfl rfl) ?_
    refine L_nil ?_
    change J _ _ _ _
    refine J_ret ?_
    change Kret _ _ _ Exit.ret _
    refine ret4 rfl rfl (RV_c 2 rfl rfl Try.underlying47 rfl (szd sz47f (by kernel_rfl))) (RV_c 3 rfl rfl Try.underlying45 rfl (szd sz45f (by kernel_rfl))) (RV_t rfl) (RV_t rfl) ?_
    exact fun w' h => ⟨by have hk := k0 (x := x) (decT h1); unfold hearC hearX hearS hearT hearD hearE; rw [hk]; rfl, h.fr⟩
  ·
    first | (have h1 := of_decide_eq_true h1) | (have h1 := of_decide_eq_false h1) | skip
    have hr := decF h1
    obtain ⟨⟨i1, i2⟩, ⟨i3, i4⟩, ⟨i5, i6⟩, i7, i8⟩ := hr.nums
    refine J_skip ?_
    change J _ _ _ _
    refine J_seq ?_
    refine J_seq ?_
    refine J_region ?_
    refine L_v rfl rfl rfl (V_fieldAddr rfl rfl Try.underlying47 rfl sz4f rfl) ?_
    refine L_v rfl rfl rfl (V_load1 0 rfl rfl rfl Try.underlying4 rfl (by rfl)) ?_
    refine L_v rfl rfl rfl (V_not rfl rfl rfl) ?_
    refine L_v rfl rfl rfl (V_move rfl rfl) ?_
    apply L_or 3 19 23
    · rfl
    · rfl
    · rfl
    · rfl
    · rfl
    · rfl
    · rfl
    · kernel_rfl
    · intro hb2 _ _ hk2
      refine L_wv rfl rfl rfl rfl rfl rfl (V_fieldAddr rfl rfl Try.underlying45 rfl sz22f rfl) ?_
      refine L_wv rfl rfl rfl rfl rfl rfl (V_load1 1 rfl rfl rfl Try.underlying22 rfl (by rfl)) ?_
      refine L_wv rfl rfl rfl rfl rfl rfl (V_neq rfl rfl rfl rfl) ?_
      exact hk2 _ ⟨rfl, rfl, rfl, rfl, ext_cut 3 (by kernel_rfl) (by kernel_rfl)⟩
    refine L_v rfl rfl rfl (V_move rfl rfl) ?_
    apply L_or 4 24 29
    · rfl
    · rfl
    · rfl
    · rfl
    · rfl
    · rfl
    · rfl
    · kernel_rfl
    · intro hb3 _ _ hk3
      refine L_wv rfl rfl rfl rfl rfl rfl (V_fieldAddr rfl rfl Try.underlying45 rfl sz3f rfl) ?_
      refine L_wv rfl rfl rfl rfl rfl rfl (V_load1 1 rfl rfl rfl Try.underlying3 rfl (by rfl)) ?_
      refine L_wcallV rfl rfl rfl rfl rfl rfl rfl rfl rfl tx27f (fun w1 hw => within21_w _ _ _ w1) ?_
      refine L_wv rfl rfl rfl rfl rfl rfl (V_not rfl rfl rfl) ?_
      exact hk3 _ ⟨rfl, rfl, rfl, rfl, ext_cut 4 (by kernel_rfl) (by kernel_rfl)⟩
    refine L_v rfl rfl rfl (V_move rfl rfl) ?_
    apply L_or 6 30 37
    · rfl
    · rfl
    · rfl
    · rfl
    · rfl
    · rfl
    · rfl
    · kernel_rfl
    · intro hb4 _ _ hk4
      refine L_wv rfl rfl rfl rfl rfl rfl (V_fieldAddr rfl rfl Try.underlying45 rfl sz3f rfl) ?_
      refine L_wv rfl rfl rfl rfl rfl rfl (V_load1 1 rfl rfl rfl Try.underlying3 rfl (by rfl)) ?_
      refine L_wv rfl rfl rfl rfl rfl rfl (V_fieldAddr rfl rfl Try.underlying47 rfl sz3f rfl) ?_
      refine L_wv rfl rfl rfl rfl rfl rfl (V_load1 0 rfl rfl rfl Try.underlying3 rfl (by rfl)) ?_
      refine L_wv rfl rfl rfl rfl rfl rfl (V_neg rfl rfl (by first | exact Go.IntWalk.i64_in _ (by omega) | rfl)) ?_
      refine L_wv rfl rfl rfl rfl rfl rfl (V_neq rfl rfl rfl rfl) ?_
      exact hk4 _ ⟨rfl, rfl, rfl, rfl, ext_cut 6 (by kernel_rfl) (by kernel_rfl)⟩
    refine L_v rfl rfl rfl (V_move rfl rfl) ?_
    apply L_or 6 38 45
    · rfl
    · rfl
    · rfl
    · rfl
    · rfl
    · rfl
    · rfl
    · kernel_rfl
    · intro hb5 _ _ hk5
      refine L_wv rfl rfl rfl rfl rfl rfl (V_fieldAddr rfl rfl Try.underlying45 rfl sz43f rfl) ?_
      refine L_wv rfl rfl rfl rfl rfl rfl (V_fieldAddr rfl rfl Try.underlying43 rfl sz3f rfl) ?_
      refine L_wv rfl rfl rfl rfl rfl rfl (V_load1 1 rfl rfl rfl Try.underlying3 rfl (by rfl)) ?_
      refine L_wv rfl rfl rfl rfl rfl rfl (V_fieldAddr rfl rfl Try.underlying47 rfl sz3f rfl) ?_
      refine L_wv rfl rfl rfl rfl rfl rfl (V_load1 0 rfl rfl rfl Try.underlying3 rfl (by rfl)) ?_
      refine L_wv rfl rfl rfl rfl rfl rfl (V_neq rfl rfl rfl rfl) ?_
      exact hk5 _ ⟨rfl, rfl, rfl, rfl, ext_cut 6 (by kernel_rfl) (by kernel_rfl)⟩
    refine L_nil ?_
    change J _ _ _ _
    refine J_cond rfl (fun h6 => ?_) (fun h6 => ?_)
    ·
      first | (have h6 := of_decide_eq_true h6) | (have h6 := of_decide_eq_false h6) | skip
      refine J_seq ?_
      refine J_region ?_
      refine L_v rfl rfl rfl (V_loadT 0 (vs := ctM c m) rfl rfl rfl Try.underlying47 rfl sz47f (by kernel_rfl) (by kernel_rfl)) ?_
      refine L_v rfl rfl rfl (V_buildE (v := .agg (msM ms0 m50).toArray) rfl rfl (fun w => by kernel_rfl)) ?_
      refine L_storeW 2 rfl rfl rfl rfl rfl rfl (szd sz47f (by kernel_rfl)) (all_one (by kernel_rfl)) (by kernel_rfl) ?_
      refine L_storeW 3 rfl rfl rfl rfl rfl rfl (szd sz45f (by kernel_rfl)) (all_one (by kernel_rfl)) (by kernel_rfl) ?_
      refine L_v rfl rfl rfl (V_assign rfl rfl) ?_
      refine L_v rfl rfl rfl (V_assign rfl rfl) ?_
      refine L_nil ?_
      change J _ _ _ _
      refine J_ret ?_
      change Kret _ _ _ Exit.ret _
      refine ret4 rfl rfl (RV_c 2 rfl rfl Try.underlying47 rfl (szd sz47f (by kernel_rfl))) (RV_c 3 rfl rfl Try.underlying45 rfl (szd sz45f (by kernel_rfl))) (RV_t rfl) (RV_t rfl) ?_
      exact fun w' h => ⟨by have hk := k1 hr h6; unfold hearC hearX hearS hearT hearD hearE; rw [hk]; rfl, h.fr⟩
    ·
      first | (have h6 := of_decide_eq_true h6) | (have h6 := of_decide_eq_false h6) | skip
      refine J_skip ?_
      change J _ _ _ _
      refine J_seq ?_
      refine J_seq ?_
      refine J_region ?_
      refine L_v rfl rfl rfl (V_fieldAddr rfl rfl Try.underlying45 rfl sz43f rfl) ?_
      refine L_v rfl rfl rfl (V_fieldAddr rfl rfl Try.underlying43 rfl sz33f rfl) ?_
      refine L_v rfl rfl rfl (V_load1 1 rfl rfl rfl Try.underlying33 rfl (by rfl)) ?_
      refine L_v rfl rfl rfl (V_eql rfl rfl rfl rfl) ?_
      refine L_nil ?_
      change J _ _ _ _
      refine J_cond rfl (fun h7 => ?_) (fun h7 => ?_)
      ·
        first | (have h7 := of_decide_eq_true h7) | (have h7 := of_decide_eq_false h7) | skip
        refine J_seq ?_
        refine J_region ?_
        refine L_v rfl rfl rfl (V_fieldAddr rfl rfl Try.underlying45 rfl sz3f rfl) ?_
        refine L_v rfl rfl rfl (V_load1 1 rfl rfl rfl Try.underlying3 rfl (by rfl)) ?_
        refine L_callV rfl rfl rfl rfl rfl rfl tx28f (fun w1 hw => next_w _ w1 (heard_frm h6).2) ?_
        refine L_v rfl rfl rfl (V_assign rfl rfl) ?_
        refine L_nil ?_
        change J _ _ _ _
        refine J_seq ?_
        refine J_seq ?_
        refine J_region ?_
        refine L_v rfl rfl rfl (V_fieldAddr rfl rfl Try.underlying45 rfl sz43f rfl) ?_
        refine L_v rfl rfl rfl (V_fieldAddr rfl rfl Try.underlying43 rfl sz3f rfl) ?_
        refine L_v rfl rfl rfl (V_load1 1 rfl rfl rfl Try.underlying3 rfl (by rfl)) ?_
        refine L_callV rfl rfl rfl rfl rfl rfl tx27f (fun w1 hw => within21_w _ _ _ w1) ?_
        refine L_v rfl rfl rfl (V_move rfl rfl) ?_
        apply L_and 6 59 66
        · rfl
        · rfl
        · rfl
        · rfl
        · rfl
        · rfl
        · rfl
        · kernel_rfl
        · intro hb8 _ _ hk8
          refine L_wv rfl rfl rfl rfl rfl rfl (V_fieldAddr rfl rfl Try.underlying45 rfl sz43f rfl) ?_
          refine L_wv rfl rfl rfl rfl rfl rfl (V_fieldAddr rfl rfl Try.underlying43 rfl sz3f rfl) ?_
          refine L_wv rfl rfl rfl rfl rfl rfl (V_load1 1 rfl rfl rfl Try.underlying3 rfl (by rfl)) ?_
          refine L_wv rfl rfl rfl rfl rfl rfl (V_fieldAddr rfl rfl Try.underlying45 rfl sz3f rfl) ?_
          refine L_wv rfl rfl rfl rfl rfl rfl (V_load1 1 rfl rfl rfl Try.underlying3 rfl (by rfl)) ?_
          refine L_wv rfl rfl rfl rfl rfl rfl (V_neq rfl rfl rfl rfl) ?_
          exact hk8 _ ⟨rfl, rfl, rfl, rfl, ext_cut 6 (by kernel_rfl) (by kernel_rfl)⟩
        refine L_nil ?_
        change J _ _ _ _
        refine J_cond rfl (fun h9 => ?_) (fun h9 => ?_)
        ·
          first | (have h9 := of_decide_eq_true h9) | (have h9 := of_decide_eq_false h9) | skip
          refine J_region ?_
          refine L_v rfl rfl rfl (V_fieldAddr rfl rfl Try.underlying45 rfl sz43f rfl) ?_
          refine L_v rfl rfl rfl (V_fieldAddr rfl rfl Try.underlying43 rfl sz3f rfl) ?_
          refine L_v rfl rfl rfl (V_load1 1 rfl rfl rfl Try.underlying3 rfl (by rfl)) ?_
          refine L_v rfl rfl rfl (V_assign rfl rfl) ?_
          refine L_nil ?_
          change J _ _ _ _
          refine J_seq ?_
          refine J_region ?_
          refine L_v rfl rfl rfl (V_loadT 0 (vs := ctM c m) rfl rfl rfl Try.underlying47 rfl sz47f (by kernel_rfl) (by kernel_rfl)) ?_
          refine L_v rfl rfl rfl (V_move rfl rfl) ?_
          refine L_callV rfl rfl rfl rfl rfl rfl tx29f (fun w1 hw => turn_w c m _ w1 ⟨i7, i8⟩) ?_
          refine L_v rfl rfl rfl (V_move rfl rfl) ?_
          refine L_v rfl rfl rfl (V_extract rfl rfl rfl) ?_
          refine L_v rfl rfl rfl (V_extract rfl rfl rfl) ?_
          refine L_alloc rfl rfl rfl rfl z47f (fun b4 => ?_)
          refine L_alloc rfl rfl rfl rfl z45f (fun b5 => ?_)
          refine L_storeW 4 rfl rfl rfl rfl rfl rfl (szd sz47f (by kernel_rfl)) (all_one (by kernel_rfl)) (by kernel_rfl) ?_
          refine L_storeW 5 rfl rfl rfl rfl rfl rfl (szd sz45f (by kernel_rfl)) (all_one (by kernel_rfl)) (by kernel_rfl) ?_
          refine L_nil ?_
          change J _ _ _ _
          refine J_seq ?_
          refine J_regionO (.pure 0 (.pure 1 (.one 2 (.one 3 (.pure 4 (.pure 5 (.nil))))))) ([(b0, row 47 (ctM c m)), (b1, row 45 (msM x n)), (b4, row 47 (ctM (turnC c x.reply.lead) m)), (b5, row 45 (msM ((turnC c x.reply.lead).msg) m))]) _ (Pk.of_sub (List.Sublist.cons_cons _ (List.Sublist.cons_cons _ (List.Sublist.cons _ (List.Sublist.cons _ (List.Sublist.cons_cons _ (List.Sublist.cons_cons _ (List.nil_sublist _)))))))) (fun f hf => hf) rfl rfl (by kernel_rfl) ?_
          refine LO_v rfl rfl rfl rfl (V_loadT 2 (vs := ctM (turnC c x.reply.lead) m) rfl rfl rfl Try.underlying47 rfl sz47f (by kernel_rfl) (by kernel_rfl)) ?_
          refine LO_v rfl rfl rfl rfl (V_loadT 3 (vs := msM ((turnC c x.reply.lead).msg) m) rfl rfl rfl Try.underlying45 rfl sz45f (by kernel_rfl) (by kernel_rfl)) ?_
          refine LO_s rfl rfl rfl (S_storeW 2 rfl rfl rfl rfl rfl (szd sz47f (by kernel_rfl)) (all_one (by kernel_rfl)) (by kernel_rfl) ⟨(Pk.of_sub (List.Sublist.cons_cons _ (List.Sublist.cons_cons _ (List.Sublist.cons _ (List.Sublist.cons _ (List.Sublist.cons_cons _ (List.Sublist.cons_cons _ (List.nil_sublist _)))))))), (fun f hf => hf), ?_⟩)
          refine LO_s rfl rfl rfl (S_storeW 3 rfl rfl rfl rfl rfl (szd sz45f (by kernel_rfl)) (all_one (by kernel_rfl)) (by kernel_rfl) ⟨(Pk.of_sub (List.Sublist.cons_cons _ (List.Sublist.cons_cons _ (List.Sublist.cons _ (List.Sublist.cons _ (List.Sublist.cons_cons _ (List.Sublist.cons_cons _ (List.nil_sublist _)))))))), (fun f hf => hf), ?_⟩)
          refine LO_v rfl rfl rfl rfl (V_assign rfl rfl) ?_
          refine LO_v rfl rfl rfl rfl (V_assign rfl rfl) ?_
          refine LO_nil ?_
          change J _ _ _ _
          refine J_ret ?_
          change Kret _ _ _ Exit.ret _
          refine ret4 rfl rfl (RV_c 2 rfl rfl Try.underlying47 rfl (szd sz47f (by kernel_rfl))) (RV_c 3 rfl rfl Try.underlying45 rfl (szd sz45f (by kernel_rfl))) (RV_t rfl) (RV_t rfl) ?_
          exact fun w' h => ⟨by have hk := k3 hr h6 h7; have ht := to_c h9; unfold hearC hearX hearS hearT hearD hearE; rw [hk, ht]; rfl, h.fr⟩
        ·
          first | (have h9 := of_decide_eq_true h9) | (have h9 := of_decide_eq_false h9) | skip
          refine J_skip ?_
          change J _ _ _ _
          refine J_seq ?_
          refine J_region ?_
          refine L_v rfl rfl rfl (V_loadT 0 (vs := ctM c m) rfl rfl rfl Try.underlying47 rfl sz47f (by kernel_rfl) (by kernel_rfl)) ?_
          refine L_v rfl rfl rfl (V_move rfl rfl) ?_
          refine L_callV rfl rfl rfl rfl rfl rfl tx29f (fun w1 hw => turn_w c m _ w1 ⟨i7, i8⟩) ?_
          refine L_v rfl rfl rfl (V_move rfl rfl) ?_
          refine L_v rfl rfl rfl (V_extract rfl rfl rfl) ?_
          refine L_v rfl rfl rfl (V_extract rfl rfl rfl) ?_
          refine L_alloc rfl rfl rfl rfl z47f (fun b4 => ?_)
          refine L_alloc rfl rfl rfl rfl z45f (fun b5 => ?_)
          refine L_storeW 4 rfl rfl rfl rfl rfl rfl (szd sz47f (by kernel_rfl)) (all_one (by kernel_rfl)) (by kernel_rfl) ?_
          refine L_storeW 5 rfl rfl rfl rfl rfl rfl (szd sz45f (by kernel_rfl)) (all_one (by kernel_rfl)) (by kernel_rfl) ?_
          refine L_nil ?_
          change J _ _ _ _
          refine J_seq ?_
          refine J_regionO (.pure 0 (.pure 1 (.one 2 (.one 3 (.pure 4 (.pure 5 (.nil))))))) ([(b0, row 47 (ctM c m)), (b1, row 45 (msM x n)), (b4, row 47 (ctM (turnC c (afterN x.frm)) m)), (b5, row 45 (msM ((turnC c (afterN x.frm)).msg) m))]) _ (Pk.of_sub (List.Sublist.cons_cons _ (List.Sublist.cons_cons _ (List.Sublist.cons _ (List.Sublist.cons _ (List.Sublist.cons_cons _ (List.Sublist.cons_cons _ (List.nil_sublist _)))))))) (fun f hf => hf) rfl rfl (by kernel_rfl) ?_
          refine LO_v rfl rfl rfl rfl (V_loadT 2 (vs := ctM (turnC c (afterN x.frm)) m) rfl rfl rfl Try.underlying47 rfl sz47f (by kernel_rfl) (by kernel_rfl)) ?_
          refine LO_v rfl rfl rfl rfl (V_loadT 3 (vs := msM ((turnC c (afterN x.frm)).msg) m) rfl rfl rfl Try.underlying45 rfl sz45f (by kernel_rfl) (by kernel_rfl)) ?_
          refine LO_s rfl rfl rfl (S_storeW 2 rfl rfl rfl rfl rfl (szd sz47f (by kernel_rfl)) (all_one (by kernel_rfl)) (by kernel_rfl) ⟨(Pk.of_sub (List.Sublist.cons_cons _ (List.Sublist.cons_cons _ (List.Sublist.cons _ (List.Sublist.cons _ (List.Sublist.cons_cons _ (List.Sublist.cons_cons _ (List.nil_sublist _)))))))), (fun f hf => hf), ?_⟩)
          refine LO_s rfl rfl rfl (S_storeW 3 rfl rfl rfl rfl rfl (szd sz45f (by kernel_rfl)) (all_one (by kernel_rfl)) (by kernel_rfl) ⟨(Pk.of_sub (List.Sublist.cons_cons _ (List.Sublist.cons_cons _ (List.Sublist.cons _ (List.Sublist.cons _ (List.Sublist.cons_cons _ (List.Sublist.cons_cons _ (List.nil_sublist _)))))))), (fun f hf => hf), ?_⟩)
          refine LO_v rfl rfl rfl rfl (V_assign rfl rfl) ?_
          refine LO_v rfl rfl rfl rfl (V_assign rfl rfl) ?_
          refine LO_nil ?_
          change J _ _ _ _
          refine J_ret ?_
          change Kret _ _ _ Exit.ret _
          refine ret4 rfl rfl (RV_c 2 rfl rfl Try.underlying47 rfl (szd sz47f (by kernel_rfl))) (RV_c 3 rfl rfl Try.underlying45 rfl (szd sz45f (by kernel_rfl))) (RV_t rfl) (RV_t rfl) ?_
          exact fun w' h => ⟨by have hk := k3 hr h6 h7; have ht := to_d h9; unfold hearC hearX hearS hearT hearD hearE; rw [hk, ht]; rfl, h.fr⟩
      ·
        first | (have h7 := of_decide_eq_true h7) | (have h7 := of_decide_eq_false h7) | skip
        refine J_skip ?_
        change J _ _ _ _
        refine J_seq ?_
        refine J_region ?_
        refine L_v rfl rfl rfl (V_fieldAddr rfl rfl Try.underlying47 rfl sz3f rfl) ?_
        refine L_v rfl rfl rfl (V_load1 0 rfl rfl rfl Try.underlying3 rfl (by rfl)) ?_
        refine L_v rfl rfl rfl (V_fieldAddr rfl rfl Try.underlying47 rfl sz3f rfl) ?_
        refine L_v rfl rfl rfl (V_load1 0 rfl rfl rfl Try.underlying3 rfl (by rfl)) ?_
        refine L_v rfl rfl rfl (V_fieldAddr rfl rfl Try.underlying45 rfl sz3f rfl) ?_
        refine L_v rfl rfl rfl (V_load1 1 rfl rfl rfl Try.underlying3 rfl (by rfl)) ?_
        refine L_v rfl rfl rfl (V_buildE (v := .agg (ctM { ct0 with id := c.id, seq := c.seq, target := x.frm } m50).toArray) rfl rfl (fun w => by kernel_rfl)) ?_
        refine L_v rfl rfl rfl (V_buildE (v := .agg (msM ms0 m50).toArray) rfl rfl (fun w => by kernel_rfl)) ?_
        refine L_storeW 2 rfl rfl rfl rfl rfl rfl (szd sz47f (by kernel_rfl)) (all_one (by kernel_rfl)) (by kernel_rfl) ?_
        refine L_storeW 3 rfl rfl rfl rfl rfl rfl (szd sz45f (by kernel_rfl)) (all_one (by kernel_rfl)) (by kernel_rfl) ?_
        refine L_v rfl rfl rfl (V_assign rfl rfl) ?_
        refine L_v rfl rfl rfl (V_assign rfl rfl) ?_
        refine L_nil ?_
        change J _ _ _ _
        refine J_ret ?_
        change Kret _ _ _ Exit.ret _
        refine ret4 rfl rfl (RV_c 2 rfl rfl Try.underlying47 rfl (szd sz47f (by kernel_rfl))) (RV_c 3 rfl rfl Try.underlying45 rfl (szd sz45f (by kernel_rfl))) (RV_t rfl) (RV_t rfl) ?_
        exact fun w' h => ⟨by have hk := k2 hr h6 h7; unfold hearC hearX hearS hearT hearD hearE; rw [hk]; rfl, h.fr⟩

theorem ct_iff (c k : Ct) : c = k ↔ (((((c.id = k.id ∧ c.seq = k.seq) ∧ c.target = k.target) ∧ c.busy = k.busy) ∧ c.tries = k.tries) ∧ c.msg = k.msg) := by
  obtain ⟨a1, a2, a3, a4, a5, a6⟩ := c
  obtain ⟨b1, b2, b3, b4, b5, b6⟩ := k
  simp only [Ct.mk.injEq]
  grind
set_option maxHeartbeats 2000000 in
theorem same_w (c k : Ct) (m n : M5) (es gs : List EnV) (w : World) (hx : c.msg.entries = es.map Prod.fst) (hy : k.msg.entries = gs.map Prod.fst) (f1 : FA w (msF c.msg m es)) (f2 : FA w (msF k.msg n gs)) (hB : Sz c.msg es) :
    Calls Try.prog 11 #[.agg (ctM c m).toArray, .agg (ctM k n).toArray] w fun e w' => e = .returned (.bool (decide (c = k))) ∧ Fr [] w w' := by
  refine calls_of (args := [.agg (ctM c m).toArray, .agg (ctM k n).toArray]) ([]) ([]) ([msF c.msg m es, msF k.msg n gs]) Try.func11 rfl rfl (okFW (.cons f1 (.cons f2 .nil))) ?_
  refine J_seq ?_
  refine J_region ?_
  refine L_box rfl rfl rfl rfl rfl (fun b0 => ?_)
  refine L_box rfl rfl rfl rfl rfl (fun b1 => ?_)
  refine L_v rfl rfl rfl (V_assign rfl rfl) ?_
  refine L_nil ?_
  change J _ _ _ _
  refine J_seq ?_
  refine J_region ?_
  refine L_v rfl rfl rfl (V_fieldAddr rfl rfl Try.underlying47 rfl sz3f rfl) ?_
  refine L_v rfl rfl rfl (V_load1 0 rfl rfl rfl Try.underlying3 rfl (by rfl)) ?_
  refine L_v rfl rfl rfl (V_fieldAddr rfl rfl Try.underlying47 rfl sz3f rfl) ?_
  refine L_v rfl rfl rfl (V_load1 1 rfl rfl rfl Try.underlying3 rfl (by rfl)) ?_
  refine L_v rfl rfl rfl (V_eql rfl rfl rfl rfl) ?_
  refine L_v rfl rfl rfl (V_move rfl rfl) ?_
  apply L_and 5 10 16
  · rfl
  · rfl
  · rfl
  · rfl
  · rfl
  · rfl
  · rfl
  · kernel_rfl
  · intro hb1 _ _ hk1
    refine L_wv rfl rfl rfl rfl rfl rfl (V_fieldAddr rfl rfl Try.underlying47 rfl sz3f rfl) ?_
    refine L_wv rfl rfl rfl rfl rfl rfl (V_load1 0 rfl rfl rfl Try.underlying3 rfl (by rfl)) ?_
    refine L_wv rfl rfl rfl rfl rfl rfl (V_fieldAddr rfl rfl Try.underlying47 rfl sz3f rfl) ?_
    refine L_wv rfl rfl rfl rfl rfl rfl (V_load1 1 rfl rfl rfl Try.underlying3 rfl (by rfl)) ?_
    refine L_wv rfl rfl rfl rfl rfl rfl (V_eql rfl rfl rfl rfl) ?_
    exact hk1 _ ⟨rfl, rfl, rfl, rfl, ext_cut 5 (by kernel_rfl) (by kernel_rfl)⟩
  refine L_v rfl rfl rfl (V_move rfl rfl) ?_
  apply L_and 5 17 23
  · rfl
  · rfl
  · rfl
  · rfl
  · rfl
  · rfl
  · rfl
  · kernel_rfl
  · intro hb2 _ _ hk2
    refine L_wv rfl rfl rfl rfl rfl rfl (V_fieldAddr rfl rfl Try.underlying47 rfl sz3f rfl) ?_
    refine L_wv rfl rfl rfl rfl rfl rfl (V_load1 0 rfl rfl rfl Try.underlying3 rfl (by rfl)) ?_
    refine L_wv rfl rfl rfl rfl rfl rfl (V_fieldAddr rfl rfl Try.underlying47 rfl sz3f rfl) ?_
    refine L_wv rfl rfl rfl rfl rfl rfl (V_load1 1 rfl rfl rfl Try.underlying3 rfl (by rfl)) ?_
    refine L_wv rfl rfl rfl rfl rfl rfl (V_eql rfl rfl rfl rfl) ?_
    exact hk2 _ ⟨rfl, rfl, rfl, rfl, ext_cut 5 (by kernel_rfl) (by kernel_rfl)⟩
  refine L_v rfl rfl rfl (V_move rfl rfl) ?_
  apply L_and 5 24 30
  · rfl
  · rfl
  · rfl
  · rfl
  · rfl
  · rfl
  · rfl
  · kernel_rfl
  · intro hb3 _ _ hk3
    refine L_wv rfl rfl rfl rfl rfl rfl (V_fieldAddr rfl rfl Try.underlying47 rfl sz4f rfl) ?_
    refine L_wv rfl rfl rfl rfl rfl rfl (V_load1 0 rfl rfl rfl Try.underlying4 rfl (by rfl)) ?_
    refine L_wv rfl rfl rfl rfl rfl rfl (V_fieldAddr rfl rfl Try.underlying47 rfl sz4f rfl) ?_
    refine L_wv rfl rfl rfl rfl rfl rfl (V_load1 1 rfl rfl rfl Try.underlying4 rfl (by rfl)) ?_
    refine L_wv rfl rfl rfl rfl rfl rfl (V_eqB rfl rfl rfl Try.underlying4 rfl) ?_
    exact hk3 _ ⟨rfl, rfl, rfl, rfl, ext_cut 5 (by kernel_rfl) (by kernel_rfl)⟩
  refine L_v rfl rfl rfl (V_move rfl rfl) ?_
  apply L_and 5 31 37
  · rfl
  · rfl
  · rfl
  · rfl
  · rfl
  · rfl
  · rfl
  · kernel_rfl
  · intro hb4 _ _ hk4
    refine L_wv rfl rfl rfl rfl rfl rfl (V_fieldAddr rfl rfl Try.underlying47 rfl sz3f rfl) ?_
    refine L_wv rfl rfl rfl rfl rfl rfl (V_load1 0 rfl rfl rfl Try.underlying3 rfl (by rfl)) ?_
    refine L_wv rfl rfl rfl rfl rfl rfl (V_fieldAddr rfl rfl Try.underlying47 rfl sz3f rfl) ?_
    refine L_wv rfl rfl rfl rfl rfl rfl (V_load1 1 rfl rfl rfl Try.underlying3 rfl (by rfl)) ?_
    refine L_wv rfl rfl rfl rfl rfl rfl (V_eql rfl rfl rfl rfl) ?_
    exact hk4 _ ⟨rfl, rfl, rfl, rfl, ext_cut 5 (by kernel_rfl) (by kernel_rfl)⟩
  refine L_v rfl rfl rfl (V_move rfl rfl) ?_
  apply L_and 5 38 44
  · rfl
  · rfl
  · rfl
  · rfl
  · rfl
  · rfl
  · rfl
  · kernel_rfl
  · intro hb5 _ _ hk5
    refine L_wv rfl rfl rfl rfl rfl rfl (V_fieldAddr rfl rfl Try.underlying47 rfl sz45f rfl) ?_
    refine L_wv rfl rfl rfl rfl rfl rfl (V_loadT 0 (vs := msM c.msg m) rfl rfl rfl Try.underlying45 rfl sz45f (by kernel_rfl) (by kernel_rfl)) ?_
    refine L_wv rfl rfl rfl rfl rfl rfl (V_fieldAddr rfl rfl Try.underlying47 rfl sz45f rfl) ?_
    refine L_wv rfl rfl rfl rfl rfl rfl (V_loadT 1 (vs := msM k.msg n) rfl rfl rfl Try.underlying45 rfl sz45f (by kernel_rfl) (by kernel_rfl)) ?_
    refine L_wcallV rfl rfl rfl rfl rfl rfl rfl rfl rfl tx12f (fun w1 hw => sameMessage0_w c.msg k.msg m n es gs w1 hx hy (hw.fa 0 rfl) (hw.fa 1 rfl) hB.szm) ?_
    exact hk5 _ ⟨rfl, rfl, rfl, rfl, ext_cut 5 (by kernel_rfl) (by kernel_rfl)⟩
  refine L_v rfl rfl rfl (V_assign rfl rfl) ?_
  refine L_nil ?_
  change J _ _ _ _
  refine J_ret ?_
  change Kret _ _ _ Exit.ret _
  refine ret1 rfl rfl (RV_t rfl) ?_
  exact fun w' h => ⟨congrArg (fun b => Ending.returned (Value.bool b)) (Bool.eq_iff_iff.2 (by simp only [Bool.and_eq_true, Bool.or_eq_true, decide_eq_true_eq, wi_iff, beq_iff_eq]; exact (ct_iff c k).symm)), h.fr⟩

theorem same_t (c : Ct) (m n : M5) (es gs : List EnV) (w : World) (hx : c.msg.entries = es.map Prod.fst) (hy : c.msg.entries = gs.map Prod.fst) (f1 : FA w (msF c.msg m es)) (f2 : FA w (msF c.msg n gs)) (hB : Sz c.msg es) :
    Calls Try.prog 11 #[.agg (ctM c m).toArray, .agg (ctM c n).toArray] w fun e w' => e = .returned (.bool true) ∧ Fr [] w w' := by
  have := same_w c c m n es gs w hx hy f1 f2 hB
  rwa [decide_eq_true rfl] at this
theorem sameMs_t (x : Ms) (m n : M5) (es gs : List EnV) (w : World) (hx : x.entries = es.map Prod.fst) (hy : x.entries = gs.map Prod.fst) (f1 : FA w (msF x m es)) (f2 : FA w (msF x n gs)) (hB : Sz x es) :
    Calls Try.prog 12 #[.agg (msM x m).toArray, .agg (msM x n).toArray] w fun e w' => e = .returned (.bool true) ∧ Fr [] w w' := by
  have := sameMessage0_w x x m n es gs w hx hy f1 f2 hB.szm
  rwa [decide_eq_true rfl] at this

end Go.Proofs.Ytfdmjjhgdbpfeaa
