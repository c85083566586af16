/- What the functions of layer 9 that lay a head come to. -/
import Derived.Test.YtbckeoidnpfbnaaDoorOctetPut
set_option linter.unusedVariables false
set_option linter.unusedSimpArgs false
set_option maxRecDepth 100000
namespace Go.Proofs.YtbckeoidnpfbnaaDoor
open Go.Sx
def hdL (e : Int) (r p : List Int) : List Value := .int .i64 e :: (dg r ++ dg p)
theorem hdL_len {e : Int} {r p : List Int} (hr : r.length = 32) (hp : p.length = 32) : (hdL e r p).length = 65 := by simp [hdL, dg_length, hr, hp]
theorem hd_root {e : Int} {r p : List Int} (hr : r.length = 32) : ∀ j, j < (dg r).length → (hdL e r p)[1 + j]? = (dg r)[j]? := by
  intro j hj
  rw [Nat.add_comm]
  show (dg r ++ dg p)[j]? = _
  rw [List.getElem?_append_left hj]
theorem hd_prev {e : Int} {r p : List Int} (hr : r.length = 32) : ∀ j, j < (dg p).length → (hdL e r p)[33 + j]? = (dg p)[j]? := by
  intro j hj
  rw [show 33 + j = (32 + j) + 1 by omega]
  show (dg r ++ dg p)[32 + j]? = _
  rw [List.getElem?_append_right (by rw [dg_length]; omega), dg_length, hr]
  congr 1
  omega
theorem hd_one (e : Int) (r p : List Int) : ∀ u ∈ hdL e r p, u.oneCell' = true := by
  intro u hu
  rcases List.mem_cons.1 hu with rfl | hu
  · rfl
  · rcases List.mem_append.1 hu with h | h
    · exact dg_one _ u h
    · exact dg_one _ u h
theorem hd_getR {e : Int} {r p : List Int} {i : Nat} (h : i < r.length) : (hdL e r p)[1 + i]? = some (.int .u8 (r.getD i 0)) := by
  rw [Nat.add_comm]
  show (dg r ++ dg p)[i]? = _
  rw [List.getElem?_append_left (by rw [dg_length]; exact h)]
  simp [dg, h]
theorem hd_getP {e : Int} {r p : List Int} {i : Nat} (hr : r.length = 32) (h : i < p.length) : (hdL e r p)[33 + i]? = some (.int .u8 (p.getD i 0)) := by
  rw [hd_prev hr i (by rw [dg_length]; exact h)]
  simp [dg, h]
theorem hd_setR {e : Int} {r p : List Int} {i : Nat} (h : i < r.length) (x : Int) : (hdL e r p).set (1 + i) (.int .u8 x) = hdL e (r.set i x) p := by
  rw [Nat.add_comm]
  show _ :: (dg r ++ dg p).set i _ = _
  rw [List.set_append_left _ _ (by rw [dg_length]; exact h), dg_set]
  rfl
theorem hd_setP {e : Int} {r p : List Int} {i : Nat} (hr : r.length = 32) (x : Int) : (hdL e r p).set (33 + i) (.int .u8 x) = hdL e r (p.set i x) := by
  rw [show 33 + i = (32 + i) + 1 by omega]
  show _ :: (dg r ++ dg p).set (32 + i) _ = _
  rw [List.set_append_right _ _ (by rw [dg_length]; omega), dg_length, hr, show 32 + i - 32 = i by omega, dg_set]
  rfl
theorem bdH0 (w : World) : (Instr.build 25 ([] : List (Nat × Value)).toArray).run Tryd.prog w = .ok (.agg (hdL 0 zd zd).toArray) w := by kernel_rfl
theorem bdH1 (w : World) : (Instr.build 25 [(0, .int .i64 1)].toArray).run Tryd.prog w = .ok (.agg (hdL 1 zd zd).toArray) w := by kernel_rfl
theorem sz3h : (Tryd.prog.info? 3).map (·.size) = some 1 := by kernel_rfl
theorem sz5h : (Tryd.prog.info? 5).map (·.size) = some 1 := by kernel_rfl
theorem sz23h : (Tryd.prog.info? 23).map (·.size) = some 32 := by kernel_rfl
theorem sz25h : (Tryd.prog.info? 25).map (·.size) = some 65 := by kernel_rfl
theorem tx9h : Txt Tryd.prog 9 := txt_of Tryd.func9 rfl (by kernel_rfl)
theorem tx23h : Txt Tryd.prog 23 := txt_of Tryd.func23 rfl (by kernel_rfl)
theorem tx24h : Txt Tryd.prog 24 := txt_of Tryd.func24 rfl (by kernel_rfl)
theorem tx27h : Txt Tryd.prog 27 := txt_of Tryd.func27 rfl (by kernel_rfl)
theorem z25h : (Tryd.prog.info? 25).bind (·.zero) = some (.agg (hdL 0 zd zd).toArray) := by kernel_rfl

theorem hbytes_ok (er : Int) (r p : List Int) (w : World) (hr : r.length = 32) (hp : p.length = 32) (h0 : 1 ≤ er) (h1 : er ≤ 200) :
    Calls Tryd.prog 9 #[.agg (hdL er r p).toArray] w fun e w' => RetB 5 w ([] ++ grp er ++ r ++ p) (0 + (grp er).length + 32 + 32) (fun s => .tuple #[s, .int .i64 0]) e w' := by
  have hgl := grp_len er
  refine calls_of (args := [.agg (hdL er r p).toArray]) ([]) ([]) ([]) Tryd.func9 rfl rfl (okW0 _ _ _ _) ?_
  refine J_seq ?_
  refine J_region ?_
  refine L_box rfl rfl rfl rfl rfl (fun b0 => ?_)
  refine L_v rfl rfl rfl (V_assign rfl rfl) ?_
  refine L_v rfl rfl rfl (V_assign rfl rfl) ?_
  refine L_nil ?_
  change J _ _ _ _
  refine J_seq ?_
  refine J_seq ?_
  refine J_region ?_
  refine L_v rfl rfl rfl (V_fieldAddr rfl rfl Tryd.underlying25 rfl sz3h rfl) ?_
  refine L_v rfl rfl rfl (V_load1 0 rfl rfl rfl Tryd.underlying3 rfl (by first | rfl | exact dg_get (by omega) (by omega))) ?_
  refine L_v rfl rfl rfl (V_lss rfl rfl rfl (by first | exact decide_eq_true (by omega) | exact decide_eq_false (by omega) | rfl)) ?_
  refine L_v rfl rfl rfl (V_move rfl rfl) ?_
  refine L_wv rfl rfl rfl rfl rfl rfl (V_fieldAddr rfl rfl Tryd.underlying25 rfl sz3h rfl) ?_
  refine L_wv rfl rfl rfl rfl rfl rfl (V_load1 0 rfl rfl rfl Tryd.underlying3 rfl (by first | rfl | exact dg_get (by omega) (by omega))) ?_
  refine L_wv rfl rfl rfl rfl rfl rfl (V_gtr rfl rfl rfl (by first | exact decide_eq_true (by omega) | exact decide_eq_false (by omega) | rfl)) ?_
  first | refine L_v rfl rfl rfl (V_pickT rfl rfl rfl) ?_ | refine L_v rfl rfl rfl (V_pickF rfl rfl rfl) ?_
  refine L_nil ?_
  change J _ _ _ _
  refine J_false rfl ?_
  refine J_skip ?_
  change J _ _ _ _
  refine J_seq ?_
  refine J_region ?_
  refine L_v rfl rfl rfl (V_fieldAddr rfl rfl Tryd.underlying25 rfl sz3h rfl) ?_
  refine L_v rfl rfl rfl (V_load1 0 rfl rfl rfl Tryd.underlying3 rfl (by first | rfl | exact dg_get (by omega) (by omega))) ?_
  refine L_callB rfl rfl rfl rfl rfl rfl tx23h (fun w hw => putCount_ok none 0 0 [] er w (SlB.nil _ _) (by omega) (Nat.le_refl _) (by omega) (by omega)) (fun g1 r1 c1 hl1 hc1 hr1 => ?_)
  refine L_v rfl rfl rfl (V_move rfl rfl) ?_
  refine L_v rfl rfl rfl (V_extract rfl rfl rfl) ?_
  refine L_v rfl rfl rfl (V_extract rfl rfl rfl) ?_
  refine L_v rfl rfl rfl (V_assign rfl rfl) ?_
  refine L_v rfl rfl rfl (V_assign rfl rfl) ?_
  refine L_nil ?_
  change J _ _ _ _
  refine J_seq ?_
  refine J_regionO (.pure 0 (.pure 1 (.pure 2 (.pure 4 (.pure 5 (.one 3 (.one 6 (.pure 7 (.pure 8 (.nil)))))))))) _ _ (Pk.refl _) (fun f hf => hf) rfl rfl (by kernel_rfl) ?_
  refine LO_v rfl rfl rfl rfl (V_move rfl rfl) ?_
  refine LO_v rfl rfl rfl rfl (V_fieldAddr rfl rfl Tryd.underlying25 rfl sz23h rfl) ?_
  refine LO_v rfl rfl rfl rfl (V_loadP 0 (vs := dg r) rfl rfl rfl Tryd.underlying23 rfl (szd sz23h (by rw [dg_length]; assumption)) (hd_root hr)) ?_
  refine LO_v rfl rfl rfl rfl (V_fieldAddr rfl rfl Tryd.underlying25 rfl sz23h rfl) ?_
  refine LO_v rfl rfl rfl rfl (V_loadP 0 (vs := dg p) rfl rfl rfl Tryd.underlying23 rfl (szd sz23h (by rw [dg_length]; assumption)) (hd_prev hr)) ?_
  refine LO_callB rfl rfl rfl rfl rfl rfl rfl rfl tx24h (fun w hw => putDigest_w (some ⟨g1, 0, none⟩) (0 + (grp er).length) c1 ([] ++ grp er) r w (SlB.of_own hw (i := 1) rfl hl1 c1) (by omega) hc1 hr) (Pk.refl _) (fun f hf => hf) (fun g2 r2 c2 hl2 hc2 hr2 => ?_)
  refine LO_callB rfl rfl rfl rfl rfl rfl rfl rfl tx24h (fun w hw => putDigest_w (some ⟨g2, 0, none⟩) (0 + (grp er).length + 32) c2 ([] ++ grp er ++ r) p w (SlB.of_own hw (i := 2) rfl hl2 c2) (by omega) hc2 hp) (Pk.app (Pk.refl _) _) (fun f hf => hf) (fun g3 r3 c3 hl3 hc3 hr3 => ?_)
  refine LO_v rfl rfl rfl rfl (V_assign rfl rfl) ?_
  refine LO_v rfl rfl rfl rfl (V_assign rfl rfl) ?_
  refine LO_nil ?_
  change J _ _ _ _
  refine J_ret ?_
  change Kret _ _ _ Exit.ret _
  refine ret2 rfl rfl (RV_t rfl) (RV_t rfl) ?_
  exact fun w' h => RetB.of h rfl 3 rfl rfl hl3 hc3 hr3

theorem hbytes_no (er : Int) (r p : List Int) (w : World) (hr : r.length = 32) (hp : p.length = 32) (h : ¬ (1 ≤ er ∧ er ≤ 200)) :
    Calls Tryd.prog 9 #[.agg (hdL er r p).toArray] w fun e w' => e = .returned (.tuple #[.slice none 0 0, .int .i64 80]) ∧ Fr [] w w' := by
  refine calls_of (args := [.agg (hdL er r p).toArray]) ([]) ([]) ([]) Tryd.func9 rfl rfl (okW0 _ _ _ _) ?_
  refine J_seq ?_
  refine J_region ?_
  refine L_box rfl rfl rfl rfl rfl (fun b0 => ?_)
  refine L_v rfl rfl rfl (V_assign rfl rfl) ?_
  refine L_v rfl rfl rfl (V_assign rfl rfl) ?_
  refine L_nil ?_
  change J _ _ _ _
  refine J_seq ?_
  refine J_seq ?_
  refine J_region ?_
  refine L_v rfl rfl rfl (V_fieldAddr rfl rfl Tryd.underlying25 rfl sz3h rfl) ?_
  refine L_v rfl rfl rfl (V_load1 0 rfl rfl rfl Tryd.underlying3 rfl (by first | rfl | exact dg_get (by omega) (by omega))) ?_
  refine L_v rfl rfl rfl (V_lss rfl rfl rfl (by first | exact decide_eq_true (by omega) | exact decide_eq_false (by omega) | rfl)) ?_
  refine L_v rfl rfl rfl (V_move rfl rfl) ?_
  refine L_split 9 rfl (fun h1 => ?_) (fun h1 => ?_)
  ·
    first | (have h1 := of_decide_eq_true h1) | (have h1 := of_decide_eq_false h1) | skip
    refine L_skip rfl rfl rfl rfl rfl rfl rfl ?_
    refine L_skip rfl rfl rfl rfl rfl rfl rfl ?_
    refine L_skip rfl rfl rfl rfl rfl rfl rfl ?_
    first | refine L_v rfl rfl rfl (V_pickT rfl rfl rfl) ?_ | refine L_v rfl rfl rfl (V_pickF rfl rfl rfl) ?_
    refine L_nil ?_
    change J _ _ _ _
    refine J_true rfl ?_
    refine J_seq ?_
    refine J_region ?_
    refine L_v rfl rfl rfl (V_assign rfl rfl) ?_
    refine L_v rfl rfl rfl (V_assign rfl rfl) ?_
    refine L_nil ?_
    change J _ _ _ _
    refine J_ret ?_
    change Kret _ _ _ Exit.ret _
    refine ret2 rfl rfl (RV_t rfl) (RV_t rfl) ?_
    exact fun w' h => ⟨rfl, h.fr⟩
  ·
    first | (have h1 := of_decide_eq_true h1) | (have h1 := of_decide_eq_false h1) | skip
    refine L_wv rfl rfl rfl rfl rfl rfl (V_fieldAddr rfl rfl Tryd.underlying25 rfl sz3h rfl) ?_
    refine L_wv rfl rfl rfl rfl rfl rfl (V_load1 0 rfl rfl rfl Tryd.underlying3 rfl (by first | rfl | exact dg_get (by omega) (by omega))) ?_
    refine L_wv rfl rfl rfl rfl rfl rfl (V_gtr rfl rfl rfl (by first | exact decide_eq_true (by omega) | exact decide_eq_false (by omega) | rfl)) ?_
    first | refine L_v rfl rfl rfl (V_pickT rfl rfl rfl) ?_ | refine L_v rfl rfl rfl (V_pickF rfl rfl rfl) ?_
    refine L_nil ?_
    change J _ _ _ _
    refine J_true rfl ?_
    refine J_seq ?_
    refine J_region ?_
    refine L_v rfl rfl rfl (V_assign rfl rfl) ?_
    refine L_v rfl rfl rfl (V_assign rfl rfl) ?_
    refine L_nil ?_
    change J _ _ _ _
    refine J_ret ?_
    change Kret _ _ _ Exit.ret _
    refine ret2 rfl rfl (RV_t rfl) (RV_t rfl) ?_
    exact fun w' h => ⟨rfl, h.fr⟩

theorem first_w (w : World) :
    Calls Tryd.prog 27 #[] w fun e w' => e = .returned (.agg (hdL 1 zd zd).toArray) ∧ Fr [] w w' := by
  refine calls_of (args := []) ([]) ([]) ([]) Tryd.func27 rfl rfl (okW0 _ _ _ _) ?_
  refine J_seq ?_
  refine J_region ?_
  refine L_alloc rfl rfl rfl rfl z25h (fun b0 => ?_)
  refine L_nil ?_
  change J _ _ _ _
  refine J_seq ?_
  refine J_region ?_
  refine L_v rfl rfl rfl (V_build (vs := [(0, .int .i64 1)]) rfl rfl bdH1) ?_
  refine L_storeW 0 rfl rfl rfl rfl rfl rfl (szd sz25h (by first | exact hdL_len (by first | assumption | rfl) (by first | assumption | rfl) | (simp [dg_length, zd_length, *]; done) | exact (hdL_len (by first | assumption | rfl) (by first | assumption | rfl)).symm)) (by first | exact hd_one _ _ _ | exact dg_one _) (by first | exact hdL_len (by first | assumption | rfl) (by first | assumption | rfl) | (simp [dg_length, zd_length, *]; done) | exact (hdL_len (by first | assumption | rfl) (by first | assumption | rfl)).symm) ?_
  refine L_nil ?_
  change J _ _ _ _
  refine J_ret ?_
  change Kret _ _ _ Exit.ret _
  refine ret1 rfl rfl (RV_c 0 rfl rfl Tryd.underlying25 rfl (szd sz25h (by first | exact hdL_len (by first | assumption | rfl) (by first | assumption | rfl) | (simp [dg_length, zd_length, *]; done) | exact (hdL_len (by first | assumption | rfl) (by first | assumption | rfl)).symm))) ?_
  exact fun w' h => ⟨rfl, h.fr⟩

theorem lays_w (w : World) :
    Calls Tryd.prog 12 #[] w fun e w' => e = .returned (.bool true) ∧ Fr [] w w' := by
  refine calls_of (args := []) ([]) ([]) ([]) Tryd.func12 rfl rfl (okW0 _ _ _ _) ?_
  refine J_seq ?_
  refine J_region ?_
  refine L_v rfl rfl rfl (V_assign rfl rfl) ?_
  refine L_nil ?_
  change J _ _ _ _
  refine J_seq ?_
  refine J_region ?_
  refine L_callV rfl rfl rfl rfl rfl rfl tx27h (fun w _ => first_w w) ?_
  refine L_callB rfl rfl rfl rfl rfl rfl tx9h (fun w hw => hbytes_ok 1 zd zd w rfl rfl (by omega) (by omega)) (fun g1 r1 c1 hl1 hc1 hr1 => ?_)
  refine L_v rfl rfl rfl (V_move rfl rfl) ?_
  refine L_v rfl rfl rfl (V_extract rfl rfl rfl) ?_
  refine L_v rfl rfl rfl (V_extract rfl rfl rfl) ?_
  refine L_v rfl rfl rfl (V_assign rfl rfl) ?_
  refine L_v rfl rfl rfl (V_assign rfl rfl) ?_
  refine L_nil ?_
  change J _ _ _ _
  refine J_seq ?_
  refine J_region ?_
  refine L_v rfl rfl rfl (V_build (vs := []) rfl rfl bdH0) ?_
  refine L_callV rfl rfl rfl rfl rfl rfl tx9h (fun w _ => hbytes_no 0 zd zd w rfl rfl (by omega)) ?_
  refine L_v rfl rfl rfl (V_move rfl rfl) ?_
  refine L_v rfl rfl rfl (V_extract rfl rfl rfl) ?_
  refine L_v rfl rfl rfl (V_extract rfl rfl rfl) ?_
  refine L_v rfl rfl rfl (V_assign rfl rfl) ?_
  refine L_v rfl rfl rfl (V_assign rfl rfl) ?_
  refine L_nil ?_
  change J _ _ _ _
  refine J_seq ?_
  refine J_region ?_
  refine L_v rfl rfl rfl (V_move rfl rfl) ?_
  refine L_v rfl rfl rfl (V_eql rfl rfl rfl (by first | exact decide_eq_true (by omega) | exact decide_eq_false (by omega) | rfl)) ?_
  refine L_v rfl rfl rfl (V_move rfl rfl) ?_
  refine L_wv rfl rfl rfl rfl rfl rfl (V_move rfl rfl) ?_
  refine L_wv rfl rfl rfl rfl rfl rfl (V_len rfl rfl Tryd.underlying26 rfl) ?_
  refine L_wv rfl rfl rfl rfl rfl rfl (V_eql rfl rfl rfl (by first | exact decide_eq_true (by omega) | exact decide_eq_false (by omega) | rfl)) ?_
  first | refine L_v rfl rfl rfl (V_pickT rfl rfl rfl) ?_ | refine L_v rfl rfl rfl (V_pickF rfl rfl rfl) ?_
  refine L_v rfl rfl rfl (V_move rfl rfl) ?_
  refine L_wv rfl rfl rfl rfl rfl rfl (V_move rfl rfl) ?_
  refine L_wv rfl rfl rfl rfl rfl rfl (V_indexB rfl rfl rfl Tryd.underlying26 sz5h (fun w hw => SlB.of_own hw (i := 0) rfl hl1 c1) (by omega) (by omega)) ?_
  refine L_wv rfl rfl rfl rfl rfl rfl (V_loadB rfl rfl Tryd.underlying5 rfl (fun w hw => SlB.of_own hw (i := 0) rfl hl1 c1) (by omega) rfl) ?_
  refine L_wv rfl rfl rfl rfl rfl rfl (V_eql rfl rfl rfl (by first | exact decide_eq_true (by omega) | exact decide_eq_false (by omega) | rfl)) ?_
  first | refine L_v rfl rfl rfl (V_pickT rfl rfl rfl) ?_ | refine L_v rfl rfl rfl (V_pickF rfl rfl rfl) ?_
  refine L_v rfl rfl rfl (V_move rfl rfl) ?_
  refine L_wv rfl rfl rfl rfl rfl rfl (V_move rfl rfl) ?_
  refine L_wv rfl rfl rfl rfl rfl rfl (V_eql rfl rfl rfl (by first | exact decide_eq_true (by omega) | exact decide_eq_false (by omega) | rfl)) ?_
  first | refine L_v rfl rfl rfl (V_pickT rfl rfl rfl) ?_ | refine L_v rfl rfl rfl (V_pickF rfl rfl rfl) ?_
  refine L_v rfl rfl rfl (V_assign rfl rfl) ?_
  refine L_nil ?_
  change J _ _ _ _
  refine J_ret ?_
  change Kret _ _ _ Exit.ret _
  refine ret1 rfl rfl (RV_t rfl) ?_
  exact fun w' h => ⟨rfl, h.fr⟩

end Go.Proofs.YtbckeoidnpfbnaaDoor
