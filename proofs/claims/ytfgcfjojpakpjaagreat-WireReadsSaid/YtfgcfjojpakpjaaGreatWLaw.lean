/- What the laws of layer 8 share. -/
import Derived.Test.YtfgcfjojpakpjaaGreatWGets2
import Derived.Test.YtfgcfjojpakpjaaGreatWireOpen
set_option linter.unusedVariables false
set_option linter.unusedSimpArgs false
set_option maxRecDepth 100000
namespace Go.Proofs.YtfgcfjojpakpjaaGreat
open Go.Sx
theorem run_partSt {P : Program} {t : TypeId} {fs : Array Field} {sz : Nat} {cs : Array Value} {off : Nat} {w : World} (hu : P.underlying t = some (.struct fs)) (hz : (P.info? t).map (·.size) = some sz) : (part t cs off).run P w = .ok (.agg (cs.extract off (off + sz))) w := by
  simp [part, isAgg, run_underlying hu, Go.Sx.run_sizeOf hz]
theorem run_equalIn_str {P : Program} {t : TypeId} (w : World) (d : Nat) (a b : ByteArray) (h : P.underlying t = some .string) : (Op.equalIn (d + 1) t (.string a) (.string b)).run P w = .ok (decide (a = b)) w := by
  rw [run_equalIn_string w d t a b h, Go.Sx.str_eq]
theorem L_makeSlice {cx : Cx} {ops : Array Oper} {K : St → Prop} {o : Oper} {rest : List Oper} {st : St} {t e : TypeId} {x y : Operand} {d n : Nat} {l : List Value} (hg : o.guard = none) (ho : o.op = .makeSlice t x y) (hd : o.dst = some d) (hlt : Nat.blt d cx.nt = true)
    (hx : ev st.env x = some (.int .i64 n)) (hy : ev st.env y = some (.int .i64 n)) (hr : ∀ w, (Instr.makeSlice t (.int .i64 n) (.int .i64 n)).run cx.P w = .ok (.slice (some ⟨w.heap.size, 0, none⟩) n n) (w.alloc (row e l)))
    (h : ∀ g, L cx ops K rest { st with env := (d, .slice (some ⟨g, 0, none⟩) n n) :: st.env, mem := st.mem ++ [(g, row e l)] }) : L cx ops K (o :: rest) st := by
  refine L_cons hg fun Q next a w hok hk => ?_
  have hval : (execOp a.eval o).run cx.P w = .ok (.value (.slice (some ⟨w.heap.size, 0, none⟩) n n)) (w.alloc (row e l)) := by
    unfold execOp; rw [ho]
    simp only [hok.a.ev hx, hok.a.ev hy, Sem.run_bind, hr w, Result.andThen_ok, Sem.run_pure]
  refine wpIn_value (nd ho (fun c h => by cases h)) hval ?_
  rw [hd]
  exact hk _ _ _ ⟨hok.a.put hlt _, hok.w.alloc _⟩ (h _)
theorem szDo : (Tryz.prog.info? 25).map (·.size) = some 32 := by kernel_rfl
theorem szHo : (Tryz.prog.info? 47).map (·.size) = some 65 := by kernel_rfl
theorem szUo : (Tryz.prog.info? 5).map (·.size) = some 1 := by kernel_rfl
theorem egS : Tryz.prog.eqGuardType Tryz.prog.depth 49 = false := by kernel_rfl
theorem egC : Tryz.prog.eqGuardType Tryz.prog.depth 27 = false := by kernel_rfl
theorem xH1 (x : Hd) : (hdV x).toArray.extract 1 (1 + 32) = (dg (l32 x.2.1)).toArray := by kernel_rfl
theorem xH2 (x : Hd) : (hdV x).toArray.extract 33 (33 + 32) = (dg (l32 x.2.2)).toArray := by kernel_rfl
theorem xS1 (x : Sg) : (sgV x).toArray.extract 0 (0 + 65) = (hdV x.1).toArray := by kernel_rfl
theorem xS2 (x : Sg) : (sgV x).toArray.extract 65 (65 + 32) = (dg (l32 x.2)).toArray := by kernel_rfl
theorem xC1 (x : Cmd) : (cmdV x).toArray.extract 6 (6 + 32) = (dg (l32 x.2.2.2.2.2.2)).toArray := by kernel_rfl
theorem eqDg1 (f : Dg) (w : World) (d : Nat) : (Op.equalIn (d + 1 + 1) 25 (.agg (dg (l32 f)).toArray) (.agg (dg (l32 f)).toArray)).run Tryz.prog w = .ok true w := by
  rw [run_eqDg Tryz.underlying25 Tryz.underlying5 szUo (l32_len f) (l32_len f) w d, decide_eq_true rfl]
theorem pD {cs : Array Value} {off : Nat} {f : Dg} {w : World} (h : cs.extract off (off + 32) = (dg (l32 f)).toArray) : (part 25 cs off).run Tryz.prog w = .ok (.agg (dg (l32 f)).toArray) w := by rw [run_partArr Tryz.underlying25 szDo, h]
theorem pHd {cs : Array Value} {off : Nat} {f : Hd} {w : World} (h : cs.extract off (off + 65) = (hdV f).toArray) : (part 47 cs off).run Tryz.prog w = .ok (.agg (hdV f).toArray) w := by rw [run_partSt Tryz.underlying47 szHo, h]
theorem eqHd (x : Hd) (w : World) (d : Nat) : (Op.equalIn (d + 4) 47 (.agg (hdV x).toArray) (.agg (hdV x).toArray)).run Tryz.prog w = .ok true w := by
  rw [run_eqStruct w (d + 3) _ _ (by kernel_rfl) (by kernel_rfl) (spec := [(true, 3, 0), (true, 25, 1), (true, 25, 33)]) (by kernel_rfl)]
  rw [eqF_one (run_part1 (cs := hdV x) (v := .int .i64 x.1) Tryz.underlying3 rfl rfl) (run_part1 (cs := hdV x) (v := .int .i64 x.1) Tryz.underlying3 rfl rfl) (run_equalIn_int w (d + 2) _ _ _ x.1 x.1 Tryz.underlying3), beq_self_eq_true, if_pos rfl]
  rw [eqF_one (pD (xH1 x)) (pD (xH1 x)) (eqDg1 x.2.1 w (d + 1)), if_pos rfl]
  rw [eqF_one (pD (xH2 x)) (pD (xH2 x)) (eqDg1 x.2.2 w (d + 1)), if_pos rfl]
  rfl
theorem eqSg (x : Sg) (w : World) : (Op.equal 49 (.agg (sgV x).toArray) (.agg (sgV x).toArray)).run Tryz.prog w = .ok true w := by
  show (Op.equalIn (9999 + 1) _ _ _).run _ w = _
  rw [run_eqStruct w 9999 _ _ (by kernel_rfl) (by kernel_rfl) (spec := [(true, 47, 0), (true, 25, 65)]) (by kernel_rfl)]
  rw [eqF_one (pHd (xS1 x)) (pHd (xS1 x)) (eqHd x.1 w 9995), if_pos rfl]
  rw [eqF_one (pD (xS2 x)) (pD (xS2 x)) (eqDg1 x.2 w 9997), if_pos rfl]
  rfl
theorem eqCmd (x : Cmd) (w : World) : (Op.equal 27 (.agg (cmdV x).toArray) (.agg (cmdV x).toArray)).run Tryz.prog w = .ok true w := by
  show (Op.equalIn (9999 + 1) _ _ _).run _ w = _
  rw [run_eqStruct w 9999 _ _ (by kernel_rfl) (by kernel_rfl) (spec := [(true, 23, 0), (true, 3, 1), (true, 3, 2), (true, 9, 3), (true, 9, 4), (true, 3, 5), (true, 25, 6)]) (by kernel_rfl)]
  rw [eqF_one (run_part1 (cs := cmdV x) (v := .int .i64 x.1) Tryz.underlying23 rfl rfl) (run_part1 (cs := cmdV x) (v := .int .i64 x.1) Tryz.underlying23 rfl rfl) (run_equalIn_int w 9998 _ _ _ x.1 x.1 Tryz.underlying23), beq_self_eq_true, if_pos rfl]
  rw [eqF_one (run_part1 (cs := cmdV x) (v := .int .i64 x.2.1) Tryz.underlying3 rfl rfl) (run_part1 (cs := cmdV x) (v := .int .i64 x.2.1) Tryz.underlying3 rfl rfl) (run_equalIn_int w 9998 _ _ _ x.2.1 x.2.1 Tryz.underlying3), beq_self_eq_true, if_pos rfl]
  rw [eqF_one (run_part1 (cs := cmdV x) (v := .int .i64 x.2.2.1) Tryz.underlying3 rfl rfl) (run_part1 (cs := cmdV x) (v := .int .i64 x.2.2.1) Tryz.underlying3 rfl rfl) (run_equalIn_int w 9998 _ _ _ x.2.2.1 x.2.2.1 Tryz.underlying3), beq_self_eq_true, if_pos rfl]
  rw [eqF_one (run_part1 (cs := cmdV x) (v := .string x.2.2.2.1) Tryz.underlying9 rfl rfl) (run_part1 (cs := cmdV x) (v := .string x.2.2.2.1) Tryz.underlying9 rfl rfl) (run_equalIn_str w 9998 x.2.2.2.1 x.2.2.2.1 Tryz.underlying9), decide_eq_true rfl, if_pos rfl]
  rw [eqF_one (run_part1 (cs := cmdV x) (v := .string x.2.2.2.2.1) Tryz.underlying9 rfl rfl) (run_part1 (cs := cmdV x) (v := .string x.2.2.2.2.1) Tryz.underlying9 rfl rfl) (run_equalIn_str w 9998 x.2.2.2.2.1 x.2.2.2.2.1 Tryz.underlying9), decide_eq_true rfl, if_pos rfl]
  rw [eqF_one (run_part1 (cs := cmdV x) (v := .int .i64 x.2.2.2.2.2.1) Tryz.underlying3 rfl rfl) (run_part1 (cs := cmdV x) (v := .int .i64 x.2.2.2.2.2.1) Tryz.underlying3 rfl rfl) (run_equalIn_int w 9998 _ _ _ x.2.2.2.2.2.1 x.2.2.2.2.2.1 Tryz.underlying3), beq_self_eq_true, if_pos rfl]
  rw [eqF_one (pD (xC1 x)) (pD (xC1 x)) (eqDg1 x.2.2.2.2.2.2 w 9997), if_pos rfl]
  rfl
theorem getW_sg0 : getW sgC [] = none := by rfl
theorem getW_cmd0 : getW cmdC [] = none := by rfl
theorem getW_en0 : getW enC [] = none := by rfl
theorem getW_rec0 : getW recC [] = none := by rfl
theorem byt0 : Byt [] := fun x hx => by cases hx
def g7 : Dg := fun i => if i = 0 then 7 else 0
def x7 : Sg := ((1, dz, dz), g7)
def M7 : List Int := [1] ++ (l32 dz ++ (l32 dz ++ l32 g7))
theorem enc7 : encTs (sgC.tk x7) = .ok M7 := by rfl
theorem byt7 : Byt M7 := by
  show ∀ x ∈ M7, 0 ≤ x ∧ x < 256
  decide
theorem bytz {n : Nat} : Byt (List.replicate n 0) := by
  intro x hx
  rw [List.eq_of_mem_replicate hx]
  decide
def c0 : Cmd := (0, 0, 0, ⟨#[]⟩, ⟨#[]⟩, 0, dz)
def z38 : List Int := List.replicate 38 0
theorem encC0 : encTs (cmdC.tk c0) = .ok z38 := by rfl
theorem ms38 (w : World) : (Instr.makeSlice 22 (.int .i64 ((38 : Nat) : Int)) (.int .i64 ((38 : Nat) : Int))).run Tryz.prog w = .ok (.slice (some ⟨w.heap.size, 0, none⟩) 38 38) (w.alloc (row 5 (dg z38))) := by kernel_rfl
theorem ms37 (w : World) : (Instr.makeSlice 22 (.int .i64 ((37 : Nat) : Int)) (.int .i64 ((37 : Nat) : Int))).run Tryz.prog w = .ok (.slice (some ⟨w.heap.size, 0, none⟩) 37 37) (w.alloc (row 5 (dg (List.replicate 37 0)))) := by kernel_rfl
theorem getW_37 : getW cmdC (List.replicate 37 0) = none := by rfl
theorem encC1 : encTs (cmdC.tk (0, -1, 0, ⟨#[]⟩, ⟨#[]⟩, 0, dz)) = .error 1 := by rfl
theorem bdS1 (w : World) : (Instr.build 47 [(0, .int .i64 1)].toArray).run Tryz.prog w = .ok (.agg (hdV (1, dz, dz)).toArray) w := by kernel_rfl
theorem bdS2 (w : World) : (Instr.build 25 [(0, .int .u8 7)].toArray).run Tryz.prog w = .ok (.agg (dg (l32 g7)).toArray) w := by kernel_rfl
theorem bdS3 (w : World) : (Instr.build 49 [(0, .agg (hdV (1, dz, dz)).toArray), (1, .agg (dg (l32 g7)).toArray)].toArray).run Tryz.prog w = .ok (.agg (sgV x7).toArray) w := by kernel_rfl
theorem bdC0 (w : World) : (Instr.build 27 ([] : List (Nat × Value)).toArray).run Tryz.prog w = .ok (.agg (cmdV c0).toArray) w := by kernel_rfl
theorem bdC1 (w : World) : (Instr.build 27 [(1, .int .i64 (-1))].toArray).run Tryz.prog w = .ok (.agg (cmdV (0, -1, 0, ⟨#[]⟩, ⟨#[]⟩, 0, dz)).toArray) w := by kernel_rfl
theorem sz3o : (Tryz.prog.info? 3).map (·.size) = some 1 := by kernel_rfl
theorem sz5o : (Tryz.prog.info? 5).map (·.size) = some 1 := by kernel_rfl
theorem sz25o : (Tryz.prog.info? 25).map (·.size) = some 32 := by kernel_rfl
theorem sz27o : (Tryz.prog.info? 27).map (·.size) = some 38 := by kernel_rfl
theorem sz47o : (Tryz.prog.info? 47).map (·.size) = some 65 := by kernel_rfl
theorem sz49o : (Tryz.prog.info? 49).map (·.size) = some 97 := by kernel_rfl
theorem tx4o : Txt Tryz.prog 4 := txt_of Tryz.func4 rfl (by kernel_rfl)
theorem tx6o : Txt Tryz.prog 6 := txt_of Tryz.func6 rfl (by kernel_rfl)
theorem tx15o : Txt Tryz.prog 15 := txt_of Tryz.func15 rfl (by kernel_rfl)
theorem tx17o : Txt Tryz.prog 17 := txt_of Tryz.func17 rfl (by kernel_rfl)
theorem z27o : (Tryz.prog.info? 27).bind (·.zero) = some (.agg [.int .i64 0, .int .i64 0, .int .i64 0, .string ByteArray.empty, .string ByteArray.empty, .int .i64 0, .int .u8 0, .int .u8 0, .int .u8 0, .int .u8 0, .int .u8 0, .int .u8 0, .int .u8 0, .int .u8 0, .int .u8 0, .int .u8 0, .int .u8 0, .int .u8 0, .int .u8 0, .int .u8 0, .int .u8 0, .int .u8 0, .int .u8 0, .int .u8 0, .int .u8 0, .int .u8 0, .int .u8 0, .int .u8 0, .int .u8 0, .int .u8 0, .int .u8 0, .int .u8 0, .int .u8 0, .int .u8 0, .int .u8 0, .int .u8 0, .int .u8 0, .int .u8 0].toArray) := by kernel_rfl
theorem z49o : (Tryz.prog.info? 49).bind (·.zero) = some (.agg [.int .i64 0, .int .u8 0, .int .u8 0, .int .u8 0, .int .u8 0, .int .u8 0, .int .u8 0, .int .u8 0, .int .u8 0, .int .u8 0, .int .u8 0, .int .u8 0, .int .u8 0, .int .u8 0, .int .u8 0, .int .u8 0, .int .u8 0, .int .u8 0, .int .u8 0, .int .u8 0, .int .u8 0, .int .u8 0, .int .u8 0, .int .u8 0, .int .u8 0, .int .u8 0, .int .u8 0, .int .u8 0, .int .u8 0, .int .u8 0, .int .u8 0, .int .u8 0, .int .u8 0, .int .u8 0, .int .u8 0, .int .u8 0, .int .u8 0, .int .u8 0, .int .u8 0, .int .u8 0, .int .u8 0, .int .u8 0, .int .u8 0, .int .u8 0, .int .u8 0, .int .u8 0, .int .u8 0, .int .u8 0, .int .u8 0, .int .u8 0, .int .u8 0, .int .u8 0, .int .u8 0, .int .u8 0, .int .u8 0, .int .u8 0, .int .u8 0, .int .u8 0, .int .u8 0, .int .u8 0, .int .u8 0, .int .u8 0, .int .u8 0, .int .u8 0, .int .u8 0, .int .u8 0, .int .u8 0, .int .u8 0, .int .u8 0, .int .u8 0, .int .u8 0, .int .u8 0, .int .u8 0, .int .u8 0, .int .u8 0, .int .u8 0, .int .u8 0, .int .u8 0, .int .u8 0, .int .u8 0, .int .u8 0, .int .u8 0, .int .u8 0, .int .u8 0, .int .u8 0, .int .u8 0, .int .u8 0, .int .u8 0, .int .u8 0, .int .u8 0, .int .u8 0, .int .u8 0, .int .u8 0, .int .u8 0, .int .u8 0, .int .u8 0, .int .u8 0].toArray) := by kernel_rfl

theorem signed_t (w : World) :
    Calls Tryz.prog 25 #[] w fun e w' => e = .returned (.bool true) ∧ Fr [] w w' := by
  refine calls_of (args := []) ([]) ([]) ([]) Tryz.func25 rfl rfl (okW0 _ _ _ _) ?_
  refine J_seq ?_
  refine J_region ?_
  refine L_v rfl rfl rfl (V_assign rfl rfl) ?_
  refine L_nil ?_
  change J _ _ _ _
  refine J_seq ?_
  refine J_region ?_
  refine L_v rfl rfl rfl (V_build (vs := [(0, .int .i64 1)]) rfl rfl bdS1) ?_
  refine L_v rfl rfl rfl (V_build (vs := [(0, .int .u8 7)]) rfl rfl bdS2) ?_
  refine L_v rfl rfl rfl (V_build (vs := [(0, .agg (hdV (1, dz, dz)).toArray), (1, .agg (dg (l32 g7)).toArray)]) rfl rfl bdS3) ?_
  refine L_call rfl rfl rfl rfl tx17o (fun w1 hw => (putsigned_w x7 w1 (by decide)).mono ?_)
  rw [enc7]
  rintro e w' ⟨hfr, a1, n1, c1, rfl, hs1, hc1, hn1⟩
  have hz1 : n1 = 97 := hs1.size.symm.trans rfl
  have hnw1 : ∀ k, (factB (.slice a1 n1 c1) M7).fp k → w.heap.size ≤ k := fun j hk => Nat.le_trans hw.fr.size (hn1 j hk)
  refine ⟨_, _, _, rfl, OkW.fr0F hw (fs2 := [factB (.slice a1 n1 c1) M7]) hfr (fun f hf => by obtain rfl := List.mem_singleton.1 hf; exact ⟨hs1, fun j hk => ⟨hn1 j hk, factB_lt hs1 j hk⟩⟩), rfl, ?_⟩
  refine L_v rfl rfl rfl (V_move rfl rfl) ?_
  refine L_v rfl rfl rfl (V_extract rfl rfl rfl) ?_
  refine L_v rfl rfl rfl (V_extract rfl rfl rfl) ?_
  refine L_v rfl rfl rfl (V_assign rfl rfl) ?_
  refine L_v rfl rfl rfl (V_assign rfl rfl) ?_
  refine L_nil ?_
  change J _ _ _ _
  refine J_seq ?_
  refine J_region ?_
  refine L_v rfl rfl rfl (V_move rfl rfl) ?_
  refine L_call rfl rfl rfl rfl tx15o (fun w1 hw => (getsigned_w a1 n1 c1 M7 w1 (fB hw 0 rfl) byt7 hc1 (by first | decide | omega)).mono ?_)
  rw [getW_put sgC enc7]
  rintro e w' ⟨hfr, v, fs, rfl, ⟨rfl, rfl⟩, hf⟩
  refine ⟨_, _, _, rfl, hw.fr0 hfr, rfl, ?_⟩
  refine L_v rfl rfl rfl (V_move rfl rfl) ?_
  refine L_v rfl rfl rfl (V_extract rfl rfl rfl) ?_
  refine L_v rfl rfl rfl (V_extract rfl rfl rfl) ?_
  refine L_alloc rfl rfl rfl rfl z49o (fun b0 => ?_)
  refine L_storeW 0 rfl rfl rfl rfl rfl rfl (szd sz49o (by kernel_rfl)) (all_one (by kernel_rfl)) (by kernel_rfl) ?_
  refine L_v rfl rfl rfl (V_assign rfl rfl) ?_
  refine L_nil ?_
  change J _ _ _ _
  refine J_seq ?_
  refine J_region ?_
  refine L_call rfl rfl rfl rfl tx15o (fun w1 hw => (getsigned_w none 0 0 [] w1 (SlB.nil _ _) byt0 (Nat.le_refl 0) (by decide)).mono ?_)
  rw [getW_sg0]
  rintro e w' ⟨hfr, rfl⟩
  refine ⟨_, _, _, rfl, hw.fr0 hfr, rfl, ?_⟩
  refine L_v rfl rfl rfl (V_move rfl rfl) ?_
  refine L_v rfl rfl rfl (V_extract rfl rfl rfl) ?_
  refine L_v rfl rfl rfl (V_extract rfl rfl rfl) ?_
  refine L_alloc rfl rfl rfl rfl z49o (fun b1 => ?_)
  refine L_storeW 1 rfl rfl rfl rfl rfl rfl (szd sz49o (by kernel_rfl)) (all_one (by kernel_rfl)) (by kernel_rfl) ?_
  refine L_v rfl rfl rfl (V_assign rfl rfl) ?_
  refine L_nil ?_
  change J _ _ _ _
  refine J_seq ?_
  refine J_region ?_
  refine L_v rfl rfl rfl (V_move rfl rfl) ?_
  refine L_v rfl rfl rfl (V_eql rfl rfl rfl (by first | exact decide_eq_true (by omega) | exact decide_eq_false (by omega) | rfl)) ?_
  refine L_v rfl rfl rfl (V_move rfl rfl) ?_
  refine L_wv rfl rfl rfl rfl rfl rfl (V_move rfl rfl) ?_
  refine L_wv rfl rfl rfl rfl rfl rfl (V_len rfl rfl Tryz.underlying22 rfl) ?_
  refine L_wv rfl rfl rfl rfl rfl rfl (V_eql rfl rfl rfl (by first | exact decide_eq_true (by omega) | exact decide_eq_false (by omega) | rfl)) ?_
  first | refine L_v rfl rfl rfl (V_pickT rfl rfl rfl) ?_ | refine L_v rfl rfl rfl (V_pickF rfl rfl rfl) ?_
  refine L_v rfl rfl rfl (V_move rfl rfl) ?_
  refine L_wv rfl rfl rfl rfl rfl rfl (V_move rfl rfl) ?_
  refine L_wv rfl rfl rfl rfl rfl rfl (V_eql rfl rfl rfl (by first | exact decide_eq_true (by omega) | exact decide_eq_false (by omega) | rfl)) ?_
  first | refine L_v rfl rfl rfl (V_pickT rfl rfl rfl) ?_ | refine L_v rfl rfl rfl (V_pickF rfl rfl rfl) ?_
  refine L_v rfl rfl rfl (V_move rfl rfl) ?_
  refine L_wv rfl rfl rfl rfl rfl rfl (V_fieldAddr rfl rfl Tryz.underlying49 rfl sz25o rfl) ?_
  refine L_wv rfl rfl rfl rfl rfl rfl (V_indexArr rfl rfl rfl Tryz.underlying25 sz5o (by omega) (by omega) (by first | exact ix0 _ | exact ix1 _ _ | rfl)) ?_
  refine L_wv rfl rfl rfl rfl rfl rfl (V_load1 0 rfl rfl rfl Tryz.underlying5 rfl (by first | rfl | exact dg_get (by omega) (by omega))) ?_
  refine L_wv rfl rfl rfl rfl rfl rfl (V_eql rfl rfl rfl (by first | exact decide_eq_true (by omega) | exact decide_eq_false (by omega) | rfl)) ?_
  first | refine L_v rfl rfl rfl (V_pickT rfl rfl rfl) ?_ | refine L_v rfl rfl rfl (V_pickF rfl rfl rfl) ?_
  refine L_v rfl rfl rfl (V_move rfl rfl) ?_
  refine L_wv rfl rfl rfl rfl rfl rfl (V_fieldAddr rfl rfl Tryz.underlying49 rfl sz47o rfl) ?_
  refine L_wv rfl rfl rfl rfl rfl rfl (V_fieldAddr rfl rfl Tryz.underlying47 rfl sz3o rfl) ?_
  refine L_wv rfl rfl rfl rfl rfl rfl (V_load1 0 rfl rfl rfl Tryz.underlying3 rfl (by first | rfl | exact dg_get (by omega) (by omega))) ?_
  refine L_wv rfl rfl rfl rfl rfl rfl (V_eql rfl rfl rfl (by first | exact decide_eq_true (by omega) | exact decide_eq_false (by omega) | rfl)) ?_
  first | refine L_v rfl rfl rfl (V_pickT rfl rfl rfl) ?_ | refine L_v rfl rfl rfl (V_pickF rfl rfl rfl) ?_
  refine L_v rfl rfl rfl (V_move rfl rfl) ?_
  refine L_wv rfl rfl rfl rfl rfl rfl (V_move rfl rfl) ?_
  refine L_wv rfl rfl rfl rfl rfl rfl (V_eql rfl rfl rfl (by first | exact decide_eq_true (by omega) | exact decide_eq_false (by omega) | rfl)) ?_
  first | refine L_v rfl rfl rfl (V_pickT rfl rfl rfl) ?_ | refine L_v rfl rfl rfl (V_pickF rfl rfl rfl) ?_
  refine L_v rfl rfl rfl (V_assign rfl rfl) ?_
  refine L_nil ?_
  change J _ _ _ _
  refine J_ret ?_
  change Kret _ _ _ Exit.ret _
  refine ret1 rfl rfl (RV_t rfl) ?_
  exact fun w' h => ⟨rfl, h.fr⟩

set_option maxHeartbeats 4000000 in
theorem commands_t (w : World) :
    Calls Tryz.prog 22 #[] w fun e w' => e = .returned (.bool true) ∧ Fr [] w w' := by
  refine calls_of (args := []) ([]) ([]) ([]) Tryz.func22 rfl rfl (okW0 _ _ _ _) ?_
  refine J_seq ?_
  refine J_region ?_
  refine L_v rfl rfl rfl (V_assign rfl rfl) ?_
  refine L_nil ?_
  change J _ _ _ _
  refine J_seq ?_
  refine J_region ?_
  refine L_v rfl rfl rfl (V_build (vs := []) rfl rfl bdC0) ?_
  refine L_call rfl rfl rfl rfl tx6o (fun w1 hw => (putcommand_w c0 w1 (by decide)).mono ?_)
  rw [encC0]
  rintro e w' ⟨hfr, a1, n1, c1, rfl, hs1, hc1, hn1⟩
  have hz1 : n1 = 38 := hs1.size.symm.trans rfl
  have hnw1 : ∀ k, (factB (.slice a1 n1 c1) z38).fp k → w.heap.size ≤ k := fun j hk => Nat.le_trans hw.fr.size (hn1 j hk)
  refine ⟨_, _, _, rfl, OkW.fr0F hw (fs2 := [factB (.slice a1 n1 c1) z38]) hfr (fun f hf => by obtain rfl := List.mem_singleton.1 hf; exact ⟨hs1, fun j hk => ⟨hn1 j hk, factB_lt hs1 j hk⟩⟩), rfl, ?_⟩
  refine L_v rfl rfl rfl (V_move rfl rfl) ?_
  refine L_v rfl rfl rfl (V_extract rfl rfl rfl) ?_
  refine L_v rfl rfl rfl (V_extract rfl rfl rfl) ?_
  refine L_v rfl rfl rfl (V_assign rfl rfl) ?_
  refine L_v rfl rfl rfl (V_assign rfl rfl) ?_
  refine L_nil ?_
  change J _ _ _ _
  refine J_seq ?_
  refine J_region ?_
  refine L_makeSlice rfl rfl rfl rfl rfl rfl ms38 (fun b0 => ?_)
  refine L_call rfl rfl rfl rfl tx4o (fun w1 hw => (getcommand_w _ 38 38 z38 w1 (SlB.of_own hw (i := 0) rfl rfl _) bytz (Nat.le_refl 38) (by decide)).mono ?_)
  rw [getW_put cmdC encC0]
  rintro e w' ⟨hfr, v, fs, rfl, ⟨rfl, rfl⟩, hf⟩
  refine ⟨_, _, _, rfl, hw.fr0 hfr, rfl, ?_⟩
  refine L_v rfl rfl rfl (V_move rfl rfl) ?_
  refine L_v rfl rfl rfl (V_extract rfl rfl rfl) ?_
  refine L_v rfl rfl rfl (V_extract rfl rfl rfl) ?_
  refine L_alloc rfl rfl rfl rfl z27o (fun b1 => ?_)
  refine L_storeW 1 rfl rfl rfl rfl rfl rfl (szd sz27o (by kernel_rfl)) (all_one (by kernel_rfl)) (by kernel_rfl) ?_
  refine L_v rfl rfl rfl (V_assign rfl rfl) ?_
  refine L_nil ?_
  change J _ _ _ _
  refine J_seq ?_
  refine J_region ?_
  refine L_makeSlice rfl rfl rfl rfl rfl rfl ms37 (fun b2 => ?_)
  refine L_call rfl rfl rfl rfl tx4o (fun w1 hw => (getcommand_w _ 37 37 (List.replicate 37 0) w1 (SlB.of_own hw (i := 2) rfl rfl _) bytz (Nat.le_refl 37) (by decide)).mono ?_)
  rw [getW_37]
  rintro e w' ⟨hfr, rfl⟩
  refine ⟨_, _, _, rfl, hw.fr0 hfr, rfl, ?_⟩
  refine L_v rfl rfl rfl (V_move rfl rfl) ?_
  refine L_v rfl rfl rfl (V_extract rfl rfl rfl) ?_
  refine L_v rfl rfl rfl (V_extract rfl rfl rfl) ?_
  refine L_alloc rfl rfl rfl rfl z27o (fun b3 => ?_)
  refine L_storeW 3 rfl rfl rfl rfl rfl rfl (szd sz27o (by kernel_rfl)) (all_one (by kernel_rfl)) (by kernel_rfl) ?_
  refine L_v rfl rfl rfl (V_assign rfl rfl) ?_
  refine L_nil ?_
  change J _ _ _ _
  refine J_seq ?_
  refine J_region ?_
  refine L_v rfl rfl rfl (V_build (vs := [(1, .int .i64 (-1))]) rfl rfl bdC1) ?_
  refine L_call rfl rfl rfl rfl tx6o (fun w1 hw => (putcommand_w _ w1 (by decide)).mono ?_)
  rw [encC1]
  rintro e w' ⟨hfr, rfl⟩
  refine ⟨_, _, _, rfl, hw.fr0 hfr, rfl, ?_⟩
  refine L_v rfl rfl rfl (V_move rfl rfl) ?_
  refine L_v rfl rfl rfl (V_extract rfl rfl rfl) ?_
  refine L_v rfl rfl rfl (V_extract rfl rfl rfl) ?_
  refine L_v rfl rfl rfl (V_assign rfl rfl) ?_
  refine L_v rfl rfl rfl (V_assign rfl rfl) ?_
  refine L_nil ?_
  change J _ _ _ _
  refine J_seq ?_
  refine J_region ?_
  refine L_v rfl rfl rfl (V_move rfl rfl) ?_
  refine L_v rfl rfl rfl (V_eql rfl rfl rfl (by first | exact decide_eq_true (by omega) | exact decide_eq_false (by omega) | rfl)) ?_
  refine L_v rfl rfl rfl (V_move rfl rfl) ?_
  refine L_wv rfl rfl rfl rfl rfl rfl (V_move rfl rfl) ?_
  refine L_wv rfl rfl rfl rfl rfl rfl (V_len rfl rfl Tryz.underlying22 rfl) ?_
  refine L_wv rfl rfl rfl rfl rfl rfl (V_eql rfl rfl rfl (by first | exact decide_eq_true (by omega) | exact decide_eq_false (by omega) | rfl)) ?_
  first | refine L_v rfl rfl rfl (V_pickT rfl rfl rfl) ?_ | refine L_v rfl rfl rfl (V_pickF rfl rfl rfl) ?_
  refine L_v rfl rfl rfl (V_move rfl rfl) ?_
  refine L_wv rfl rfl rfl rfl rfl rfl (V_move rfl rfl) ?_
  refine L_wv rfl rfl rfl rfl rfl rfl (V_eql rfl rfl rfl (by first | exact decide_eq_true (by omega) | exact decide_eq_false (by omega) | rfl)) ?_
  first | refine L_v rfl rfl rfl (V_pickT rfl rfl rfl) ?_ | refine L_v rfl rfl rfl (V_pickF rfl rfl rfl) ?_
  refine L_v rfl rfl rfl (V_move rfl rfl) ?_
  refine L_wv rfl rfl rfl rfl rfl rfl (V_loadW 1 rfl rfl rfl Tryz.underlying27 rfl (szd sz27o (by kernel_rfl))) ?_
  refine L_wv rfl rfl rfl rfl rfl rfl (V_build (vs := []) rfl rfl bdC0) ?_
  refine L_wv rfl rfl rfl rfl rfl rfl (V_eqAgg rfl rfl rfl egC (fun w => eqCmd _ w) rfl) ?_
  first | refine L_v rfl rfl rfl (V_pickT rfl rfl rfl) ?_ | refine L_v rfl rfl rfl (V_pickF rfl rfl rfl) ?_
  refine L_v rfl rfl rfl (V_move rfl rfl) ?_
  refine L_wv rfl rfl rfl rfl rfl rfl (V_move rfl rfl) ?_
  refine L_wv rfl rfl rfl rfl rfl rfl (V_eql rfl rfl rfl (by first | exact decide_eq_true (by omega) | exact decide_eq_false (by omega) | rfl)) ?_
  first | refine L_v rfl rfl rfl (V_pickT rfl rfl rfl) ?_ | refine L_v rfl rfl rfl (V_pickF rfl rfl rfl) ?_
  refine L_v rfl rfl rfl (V_move rfl rfl) ?_
  refine L_wv rfl rfl rfl rfl rfl rfl (V_move rfl rfl) ?_
  refine L_wv rfl rfl rfl rfl rfl rfl (V_eql rfl rfl rfl (by first | exact decide_eq_true (by omega) | exact decide_eq_false (by omega) | rfl)) ?_
  first | refine L_v rfl rfl rfl (V_pickT rfl rfl rfl) ?_ | refine L_v rfl rfl rfl (V_pickF rfl rfl rfl) ?_
  refine L_v rfl rfl rfl (V_assign rfl rfl) ?_
  refine L_nil ?_
  change J _ _ _ _
  refine J_ret ?_
  change Kret _ _ _ Exit.ret _
  refine ret1 rfl rfl (RV_t rfl) ?_
  exact fun w' h => ⟨rfl, h.fr⟩

end Go.Proofs.YtfgcfjojpakpjaaGreat
