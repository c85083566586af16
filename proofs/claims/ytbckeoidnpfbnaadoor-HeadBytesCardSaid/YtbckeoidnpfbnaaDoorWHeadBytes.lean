/- What the law comes to. -/
import Derived.Test.YtbckeoidnpfbnaaDoorHeadB
set_option linter.unusedVariables false
set_option linter.unusedSimpArgs false
set_option maxRecDepth 100000
namespace Go.Proofs.YtbckeoidnpfbnaaDoor
open Go.Sx
theorem sz5y : (Tryd.prog.info? 5).map (·.size) = some 1 := by kernel_rfl
theorem sz23y : (Tryd.prog.info? 23).map (·.size) = some 32 := by kernel_rfl
theorem sz25y : (Tryd.prog.info? 25).map (·.size) = some 65 := by kernel_rfl
theorem tx9y : Txt Tryd.prog 9 := txt_of Tryd.func9 rfl (by kernel_rfl)
theorem tx10y : Txt Tryd.prog 10 := txt_of Tryd.func10 rfl (by kernel_rfl)
theorem tx11y : Txt Tryd.prog 11 := txt_of Tryd.func11 rfl (by kernel_rfl)
theorem tx12y : Txt Tryd.prog 12 := txt_of Tryd.func12 rfl (by kernel_rfl)
theorem tx13y : Txt Tryd.prog 13 := txt_of Tryd.func13 rfl (by kernel_rfl)
theorem z23y : (Tryd.prog.info? 23).bind (·.zero) = some (.agg (dg zd).toArray) := by kernel_rfl

theorem HeadBytes_ok (er : Int) (r p : List Int) (w : World) (hr : r.length = 32) (hp : p.length = 32) (hrb : Byt r) (hpb : Byt p) (he : okE er = true) (hK : TabK KT 0 w)  :
    Calls Tryd.prog 3 #[.agg (hdL er r p).toArray] w fun e w' => e = .returned (.bool true) ∧ Fr [] w w' := by
  have h01 : 1 ≤ er ∧ er ≤ 200 := of_decide_eq_true he
  obtain ⟨h0, h1⟩ := h01
  have hgl := grp_len er
  refine calls_of (args := [.agg (hdL er r p).toArray]) ([]) ([]) ([]) Tryd.func3 rfl rfl (okW0 _ _ _ _) ?_
  refine J_seq ?_
  refine J_region ?_
  refine L_box rfl rfl rfl rfl rfl (fun b0 => ?_)
  refine L_v rfl rfl rfl (V_assign rfl rfl) ?_
  refine L_nil ?_
  change J _ _ _ _
  refine J_seq ?_
  refine J_region ?_
  refine L_v rfl rfl rfl (V_loadW 0 rfl rfl rfl Tryd.underlying25 rfl (szd sz25y (by first | exact hdL_len (by first | assumption | exact shaP_len _ | exact sgn_len _ _ _ _ | exact macP_len _ _ | exact zd_length | rfl) (by first | assumption | exact shaP_len _ | exact sgn_len _ _ _ _ | exact macP_len _ _ | exact zd_length | rfl) | (rw [hdL_len (by first | assumption | exact shaP_len _ | exact sgn_len _ _ _ _ | exact macP_len _ _ | exact zd_length | rfl) (by first | assumption | exact shaP_len _ | exact sgn_len _ _ _ _ | exact macP_len _ _ | exact zd_length | rfl), hdL_len (by first | assumption | exact shaP_len _ | exact sgn_len _ _ _ _ | exact macP_len _ _ | exact zd_length | rfl) (by first | assumption | exact shaP_len _ | exact sgn_len _ _ _ _ | exact macP_len _ _ | exact zd_length | rfl)])))) ?_
  refine L_callB rfl rfl rfl rfl rfl rfl tx9v (fun w1 hw => hbytes_ok er r p w1 hr hp h0 h1) (fun g1 r1 c1 hl1 hc1 hr1 => ?_)
  refine L_v rfl rfl rfl (V_move rfl rfl) ?_
  refine L_v rfl rfl rfl (V_extract rfl rfl rfl) ?_
  refine L_v rfl rfl rfl (V_extract rfl rfl rfl) ?_
  refine L_v rfl rfl rfl (V_assign rfl rfl) ?_
  refine L_v rfl rfl rfl (V_assign rfl rfl) ?_
  refine L_nil ?_
  change J _ _ _ _
  refine J_seq ?_
  refine J_region ?_
  refine L_v rfl rfl rfl (V_loadW 0 rfl rfl rfl Tryd.underlying25 rfl (szd sz25y (by first | exact hdL_len (by first | assumption | exact shaP_len _ | exact sgn_len _ _ _ _ | exact macP_len _ _ | exact zd_length | rfl) (by first | assumption | exact shaP_len _ | exact sgn_len _ _ _ _ | exact macP_len _ _ | exact zd_length | rfl) | (rw [hdL_len (by first | assumption | exact shaP_len _ | exact sgn_len _ _ _ _ | exact macP_len _ _ | exact zd_length | rfl) (by first | assumption | exact shaP_len _ | exact sgn_len _ _ _ _ | exact macP_len _ _ | exact zd_length | rfl), hdL_len (by first | assumption | exact shaP_len _ | exact sgn_len _ _ _ _ | exact macP_len _ _ | exact zd_length | rfl) (by first | assumption | exact shaP_len _ | exact sgn_len _ _ _ _ | exact macP_len _ _ | exact zd_length | rfl)])))) ?_
  refine L_callB rfl rfl rfl rfl rfl rfl tx10v (fun w1 hw => rhb_ok er r p w1 hr hp he) (fun g2 r2 c2 hl2 hc2 hr2 => ?_)
  refine L_v rfl rfl rfl (V_move rfl rfl) ?_
  refine L_v rfl rfl rfl (V_extract rfl rfl rfl) ?_
  refine L_v rfl rfl rfl (V_extract rfl rfl rfl) ?_
  refine L_v rfl rfl rfl (V_assign rfl rfl) ?_
  refine L_v rfl rfl rfl (V_assign rfl rfl) ?_
  refine L_nil ?_
  change J _ _ _ _
  refine J_seq ?_
  refine J_region ?_
  refine L_v rfl rfl rfl (V_loadW 0 rfl rfl rfl Tryd.underlying25 rfl (szd sz25y (by first | exact hdL_len (by first | assumption | exact shaP_len _ | exact sgn_len _ _ _ _ | exact macP_len _ _ | exact zd_length | rfl) (by first | assumption | exact shaP_len _ | exact sgn_len _ _ _ _ | exact macP_len _ _ | exact zd_length | rfl) | (rw [hdL_len (by first | assumption | exact shaP_len _ | exact sgn_len _ _ _ _ | exact macP_len _ _ | exact zd_length | rfl) (by first | assumption | exact shaP_len _ | exact sgn_len _ _ _ _ | exact macP_len _ _ | exact zd_length | rfl), hdL_len (by first | assumption | exact shaP_len _ | exact sgn_len _ _ _ _ | exact macP_len _ _ | exact zd_length | rfl) (by first | assumption | exact shaP_len _ | exact sgn_len _ _ _ _ | exact macP_len _ _ | exact zd_length | rfl)])))) ?_
  refine L_callV rfl rfl rfl rfl rfl rfl tx11y (fun w1 hw => hdig_ok er r p w1 hr hp hrb hpb he (TabK.later hw (by simp) hK)) ?_
  refine L_v rfl rfl rfl (V_move rfl rfl) ?_
  refine L_v rfl rfl rfl (V_extract rfl rfl rfl) ?_
  refine L_v rfl rfl rfl (V_extract rfl rfl rfl) ?_
  refine L_alloc rfl rfl rfl rfl z23y (fun b3 => ?_)
  refine L_storeW 3 rfl rfl rfl rfl rfl rfl (szd sz23y (by first | (rw [dg_length]; exact (by first | assumption | exact shaP_len _ | exact sgn_len _ _ _ _ | exact macP_len _ _ | exact zd_length | rfl)) | exact (rfl : (dg zd).length = (dg zd).length) | (rw [dg_length, dg_length, show zd.length = 32 from rfl]; exact Eq.symm (by first | assumption | exact shaP_len _ | exact sgn_len _ _ _ _ | exact macP_len _ _ | exact zd_length | rfl)))) (by first | exact sgL_one _ _ _ _ | exact hd_one _ _ _ | exact dg_one _) (by first | (rw [dg_length]; exact (by first | assumption | exact shaP_len _ | exact sgn_len _ _ _ _ | exact macP_len _ _ | exact zd_length | rfl)) | exact (rfl : (dg zd).length = (dg zd).length) | (rw [dg_length, dg_length, show zd.length = 32 from rfl]; exact Eq.symm (by first | assumption | exact shaP_len _ | exact sgn_len _ _ _ _ | exact macP_len _ _ | exact zd_length | rfl))) ?_
  refine L_v rfl rfl rfl (V_assign rfl rfl) ?_
  refine L_nil ?_
  change J _ _ _ _
  refine J_seq ?_
  refine J_seq ?_
  refine J_region ?_
  refine L_v rfl rfl rfl (V_move rfl rfl) ?_
  refine L_v rfl rfl rfl (V_move rfl rfl) ?_
  refine L_v rfl rfl rfl (V_neq rfl rfl rfl (by first | exact decide_eq_true (by omega) | exact decide_eq_false (by omega) | rfl)) ?_
  refine L_v rfl rfl rfl (V_move rfl rfl) ?_
  refine L_wv rfl rfl rfl rfl rfl rfl (V_move rfl rfl) ?_
  refine L_wv rfl rfl rfl rfl rfl rfl (V_move rfl rfl) ?_
  refine L_wv rfl rfl rfl rfl rfl rfl (V_neq rfl rfl rfl (by first | exact decide_eq_true (by omega) | exact decide_eq_false (by omega) | rfl)) ?_
  first | refine L_v rfl rfl rfl (V_pickT rfl rfl rfl) ?_ | refine L_v rfl rfl rfl (V_pickF rfl rfl rfl) ?_
  refine L_v rfl rfl rfl (V_move rfl rfl) ?_
  refine L_wv rfl rfl rfl rfl rfl rfl (V_move rfl rfl) ?_
  refine L_wv rfl rfl rfl rfl rfl rfl (V_str rfl rfl Tryd.underlying26 Tryd.underlying5 Tryd.underlying9 (fun w hw => SlB.of_own hw (i := 1) (l := lay er r p) rfl hl1 c1)) ?_
  refine L_wv rfl rfl rfl rfl rfl rfl (V_move rfl rfl) ?_
  refine L_wv rfl rfl rfl rfl rfl rfl (V_str rfl rfl Tryd.underlying26 Tryd.underlying5 Tryd.underlying9 (fun w hw => SlB.of_own hw (i := 2) (l := lay er r p) rfl hl2 c2)) ?_
  refine L_wv rfl rfl rfl rfl rfl rfl (V_neS rfl rfl rfl (decide_eq_false (fun hne => hne rfl))) ?_
  first | refine L_v rfl rfl rfl (V_pickT rfl rfl rfl) ?_ | refine L_v rfl rfl rfl (V_pickF rfl rfl rfl) ?_
  refine L_nil ?_
  change J _ _ _ _
  refine J_false rfl ?_
  refine J_skip ?_
  change J _ _ _ _
  refine J_seq ?_
  refine J_regionQ rfl (by kernel_rfl) ?_
  refine LQ_callV rfl rfl rfl rfl rfl rfl tx12y (fun w1 _ => lays_w w1) ?_
  refine LQ_v rfl rfl rfl (V_move rfl rfl) ?_
  refine LQ_wv rfl rfl rfl rfl rfl rfl (V_move rfl rfl) ?_
  refine LQ_wv rfl rfl rfl rfl rfl rfl (V_neq rfl rfl rfl (by first | exact decide_eq_true (by omega) | exact decide_eq_false (by omega) | rfl)) ?_
  refine LQ_wv rfl rfl rfl rfl rfl rfl (V_move rfl rfl) ?_
  refine LQ_skip rfl rfl rfl rfl rfl rfl rfl ?_
  refine LQ_skip rfl rfl rfl rfl rfl rfl rfl ?_
  refine LQ_skip rfl rfl rfl rfl rfl rfl rfl ?_
  first | refine LQ_wv rfl rfl rfl rfl rfl rfl (V_pickT rfl rfl rfl) ?_ | refine LQ_wv rfl rfl rfl rfl rfl rfl (V_pickF rfl rfl rfl) ?_
  refine LQ_wv rfl rfl rfl rfl rfl rfl (V_move rfl rfl) ?_
  refine LQ_wv rfl rfl rfl rfl rfl rfl (V_move rfl rfl) ?_
  refine LQ_wv rfl rfl rfl rfl rfl rfl (V_eql rfl rfl rfl (by first | exact decide_eq_true (by omega) | exact decide_eq_false (by omega) | rfl)) ?_
  refine LQ_wv rfl rfl rfl rfl rfl rfl (V_move rfl rfl) ?_
  refine LQ_wv rfl rfl rfl rfl rfl rfl (V_loadW 3 rfl rfl rfl Tryd.underlying23 rfl (szd sz23y (by first | (rw [dg_length]; exact (by first | assumption | exact shaP_len _ | exact sgn_len _ _ _ _ | exact macP_len _ _ | exact zd_length | rfl)) | exact (rfl : (dg zd).length = (dg zd).length) | (rw [dg_length, dg_length, show zd.length = 32 from rfl]; exact Eq.symm (by first | assumption | exact shaP_len _ | exact sgn_len _ _ _ _ | exact macP_len _ _ | exact zd_length | rfl))))) ?_
  refine LQ_wv rfl rfl rfl rfl rfl rfl (V_move rfl rfl) ?_
  refine LQ_wcallV rfl rfl rfl rfl rfl rfl rfl rfl rfl tx13y (fun w1 hw => ssum_w (lay er r p) (some ⟨g1, 0, none⟩) (0 + (grp er).length + 32 + 32) c1 w1 (SlB.of_own hw (i := 1) (l := lay er r p) rfl hl1 c1) (lay_byt (by omega) h1 hrb hpb) hc1 (TabK.later hw (by simp) hK) (by rw [lay_len hr hp]; omega)) ?_
  refine LQ_wv rfl rfl rfl rfl rfl rfl (V_eqD rfl rfl rfl egD9 Tryd.underlying23 Tryd.underlying5 sz5y (by first | assumption | exact shaP_len _ | exact sgn_len _ _ _ _ | exact macP_len _ _ | exact zd_length | rfl) (by first | assumption | exact shaP_len _ | exact sgn_len _ _ _ _ | exact macP_len _ _ | exact zd_length | rfl) (decide_eq_true rfl)) ?_
  first | refine LQ_wv rfl rfl rfl rfl rfl rfl (V_pickT rfl rfl rfl) ?_ | refine LQ_wv rfl rfl rfl rfl rfl rfl (V_pickF rfl rfl rfl) ?_
  first | refine LQ_wv rfl rfl rfl rfl rfl rfl (V_pickT rfl rfl rfl) ?_ | refine LQ_wv rfl rfl rfl rfl rfl rfl (V_pickF rfl rfl rfl) ?_
  first | refine LQ_v rfl rfl rfl (V_pickT rfl rfl rfl) ?_ | refine LQ_v rfl rfl rfl (V_pickF rfl rfl rfl) ?_
  refine LQ_v rfl rfl rfl (V_assign rfl rfl) ?_
  refine LQ_nil ?_
  change J _ _ _ _
  refine J_ret ?_
  change Kret _ _ _ Exit.ret _
  refine ret1 rfl rfl (RV_t rfl) ?_
  exact fun w' h => ⟨rfl, h.fr⟩

theorem HeadBytes_no (er : Int) (r p : List Int) (w : World) (hr : r.length = 32) (hp : p.length = 32) (hrb : Byt r) (hpb : Byt p) (he : okE er = false) (hK : TabK KT 0 w)  :
    Calls Tryd.prog 3 #[.agg (hdL er r p).toArray] w fun e w' => e = .returned (.bool true) ∧ Fr [] w w' := by
  have h := of_decide_eq_false he
  refine calls_of (args := [.agg (hdL er r p).toArray]) ([]) ([]) ([]) Tryd.func3 rfl rfl (okW0 _ _ _ _) ?_
  refine J_seq ?_
  refine J_region ?_
  refine L_box rfl rfl rfl rfl rfl (fun b0 => ?_)
  refine L_v rfl rfl rfl (V_assign rfl rfl) ?_
  refine L_nil ?_
  change J _ _ _ _
  refine J_seq ?_
  refine J_region ?_
  refine L_v rfl rfl rfl (V_loadW 0 rfl rfl rfl Tryd.underlying25 rfl (szd sz25y (by first | exact hdL_len (by first | assumption | exact shaP_len _ | exact sgn_len _ _ _ _ | exact macP_len _ _ | exact zd_length | rfl) (by first | assumption | exact shaP_len _ | exact sgn_len _ _ _ _ | exact macP_len _ _ | exact zd_length | rfl) | (rw [hdL_len (by first | assumption | exact shaP_len _ | exact sgn_len _ _ _ _ | exact macP_len _ _ | exact zd_length | rfl) (by first | assumption | exact shaP_len _ | exact sgn_len _ _ _ _ | exact macP_len _ _ | exact zd_length | rfl), hdL_len (by first | assumption | exact shaP_len _ | exact sgn_len _ _ _ _ | exact macP_len _ _ | exact zd_length | rfl) (by first | assumption | exact shaP_len _ | exact sgn_len _ _ _ _ | exact macP_len _ _ | exact zd_length | rfl)])))) ?_
  refine L_callV rfl rfl rfl rfl rfl rfl tx9y (fun w1 _ => hbytes_no er r p w1 hr hp h) ?_
  refine L_v rfl rfl rfl (V_move rfl rfl) ?_
  refine L_v rfl rfl rfl (V_extract rfl rfl rfl) ?_
  refine L_v rfl rfl rfl (V_extract rfl rfl rfl) ?_
  refine L_v rfl rfl rfl (V_assign rfl rfl) ?_
  refine L_v rfl rfl rfl (V_assign rfl rfl) ?_
  refine L_nil ?_
  change J _ _ _ _
  refine J_seq ?_
  refine J_region ?_
  refine L_v rfl rfl rfl (V_loadW 0 rfl rfl rfl Tryd.underlying25 rfl (szd sz25y (by first | exact hdL_len (by first | assumption | exact shaP_len _ | exact sgn_len _ _ _ _ | exact macP_len _ _ | exact zd_length | rfl) (by first | assumption | exact shaP_len _ | exact sgn_len _ _ _ _ | exact macP_len _ _ | exact zd_length | rfl) | (rw [hdL_len (by first | assumption | exact shaP_len _ | exact sgn_len _ _ _ _ | exact macP_len _ _ | exact zd_length | rfl) (by first | assumption | exact shaP_len _ | exact sgn_len _ _ _ _ | exact macP_len _ _ | exact zd_length | rfl), hdL_len (by first | assumption | exact shaP_len _ | exact sgn_len _ _ _ _ | exact macP_len _ _ | exact zd_length | rfl) (by first | assumption | exact shaP_len _ | exact sgn_len _ _ _ _ | exact macP_len _ _ | exact zd_length | rfl)])))) ?_
  refine L_callV rfl rfl rfl rfl rfl rfl tx10y (fun w1 _ => rhb_no er r p w1 hr hp he) ?_
  refine L_v rfl rfl rfl (V_move rfl rfl) ?_
  refine L_v rfl rfl rfl (V_extract rfl rfl rfl) ?_
  refine L_v rfl rfl rfl (V_extract rfl rfl rfl) ?_
  refine L_v rfl rfl rfl (V_assign rfl rfl) ?_
  refine L_v rfl rfl rfl (V_assign rfl rfl) ?_
  refine L_nil ?_
  change J _ _ _ _
  refine J_seq ?_
  refine J_region ?_
  refine L_v rfl rfl rfl (V_loadW 0 rfl rfl rfl Tryd.underlying25 rfl (szd sz25y (by first | exact hdL_len (by first | assumption | exact shaP_len _ | exact sgn_len _ _ _ _ | exact macP_len _ _ | exact zd_length | rfl) (by first | assumption | exact shaP_len _ | exact sgn_len _ _ _ _ | exact macP_len _ _ | exact zd_length | rfl) | (rw [hdL_len (by first | assumption | exact shaP_len _ | exact sgn_len _ _ _ _ | exact macP_len _ _ | exact zd_length | rfl) (by first | assumption | exact shaP_len _ | exact sgn_len _ _ _ _ | exact macP_len _ _ | exact zd_length | rfl), hdL_len (by first | assumption | exact shaP_len _ | exact sgn_len _ _ _ _ | exact macP_len _ _ | exact zd_length | rfl) (by first | assumption | exact shaP_len _ | exact sgn_len _ _ _ _ | exact macP_len _ _ | exact zd_length | rfl)])))) ?_
  refine L_callV rfl rfl rfl rfl rfl rfl tx11y (fun w1 hw => hdig_no er r p w1 hr hp he) ?_
  refine L_v rfl rfl rfl (V_move rfl rfl) ?_
  refine L_v rfl rfl rfl (V_extract rfl rfl rfl) ?_
  refine L_v rfl rfl rfl (V_extract rfl rfl rfl) ?_
  refine L_alloc rfl rfl rfl rfl z23y (fun b1 => ?_)
  refine L_storeW 1 rfl rfl rfl rfl rfl rfl (szd sz23y (by first | (rw [dg_length]; exact (by first | assumption | exact shaP_len _ | exact sgn_len _ _ _ _ | exact macP_len _ _ | exact zd_length | rfl)) | exact (rfl : (dg zd).length = (dg zd).length) | (rw [dg_length, dg_length, show zd.length = 32 from rfl]; exact Eq.symm (by first | assumption | exact shaP_len _ | exact sgn_len _ _ _ _ | exact macP_len _ _ | exact zd_length | rfl)))) (by first | exact sgL_one _ _ _ _ | exact hd_one _ _ _ | exact dg_one _) (by first | (rw [dg_length]; exact (by first | assumption | exact shaP_len _ | exact sgn_len _ _ _ _ | exact macP_len _ _ | exact zd_length | rfl)) | exact (rfl : (dg zd).length = (dg zd).length) | (rw [dg_length, dg_length, show zd.length = 32 from rfl]; exact Eq.symm (by first | assumption | exact shaP_len _ | exact sgn_len _ _ _ _ | exact macP_len _ _ | exact zd_length | rfl))) ?_
  refine L_v rfl rfl rfl (V_assign rfl rfl) ?_
  refine L_nil ?_
  change J _ _ _ _
  refine J_seq ?_
  refine J_seq ?_
  refine J_region ?_
  refine L_v rfl rfl rfl (V_move rfl rfl) ?_
  refine L_v rfl rfl rfl (V_move rfl rfl) ?_
  refine L_v rfl rfl rfl (V_neq rfl rfl rfl (by first | exact decide_eq_true (by omega) | exact decide_eq_false (by omega) | rfl)) ?_
  refine L_v rfl rfl rfl (V_move rfl rfl) ?_
  refine L_wv rfl rfl rfl rfl rfl rfl (V_move rfl rfl) ?_
  refine L_wv rfl rfl rfl rfl rfl rfl (V_move rfl rfl) ?_
  refine L_wv rfl rfl rfl rfl rfl rfl (V_neq rfl rfl rfl (by first | exact decide_eq_true (by omega) | exact decide_eq_false (by omega) | rfl)) ?_
  first | refine L_v rfl rfl rfl (V_pickT rfl rfl rfl) ?_ | refine L_v rfl rfl rfl (V_pickF rfl rfl rfl) ?_
  refine L_v rfl rfl rfl (V_move rfl rfl) ?_
  refine L_wv rfl rfl rfl rfl rfl rfl (V_move rfl rfl) ?_
  refine L_wv rfl rfl rfl rfl rfl rfl (V_str rfl rfl Tryd.underlying26 Tryd.underlying5 Tryd.underlying9 (fun w hw => SlB.nil _ _)) ?_
  refine L_wv rfl rfl rfl rfl rfl rfl (V_move rfl rfl) ?_
  refine L_wv rfl rfl rfl rfl rfl rfl (V_str rfl rfl Tryd.underlying26 Tryd.underlying5 Tryd.underlying9 (fun w hw => SlB.nil _ _)) ?_
  refine L_wv rfl rfl rfl rfl rfl rfl (V_neS rfl rfl rfl (decide_eq_false (fun hne => hne rfl))) ?_
  first | refine L_v rfl rfl rfl (V_pickT rfl rfl rfl) ?_ | refine L_v rfl rfl rfl (V_pickF rfl rfl rfl) ?_
  refine L_nil ?_
  change J _ _ _ _
  refine J_false rfl ?_
  refine J_skip ?_
  change J _ _ _ _
  refine J_seq ?_
  refine J_regionQ rfl (by kernel_rfl) ?_
  refine LQ_callV rfl rfl rfl rfl rfl rfl tx12y (fun w1 _ => lays_w w1) ?_
  refine LQ_v rfl rfl rfl (V_move rfl rfl) ?_
  refine LQ_wv rfl rfl rfl rfl rfl rfl (V_move rfl rfl) ?_
  refine LQ_wv rfl rfl rfl rfl rfl rfl (V_neq rfl rfl rfl (by first | exact decide_eq_true (by omega) | exact decide_eq_false (by omega) | rfl)) ?_
  refine LQ_wv rfl rfl rfl rfl rfl rfl (V_move rfl rfl) ?_
  refine LQ_wv rfl rfl rfl rfl rfl rfl (V_loadW 1 rfl rfl rfl Tryd.underlying23 rfl (szd sz23y (by first | (rw [dg_length]; exact (by first | assumption | exact shaP_len _ | exact sgn_len _ _ _ _ | exact macP_len _ _ | exact zd_length | rfl)) | exact (rfl : (dg zd).length = (dg zd).length) | (rw [dg_length, dg_length, show zd.length = 32 from rfl]; exact Eq.symm (by first | assumption | exact shaP_len _ | exact sgn_len _ _ _ _ | exact macP_len _ _ | exact zd_length | rfl))))) ?_
  refine LQ_wv rfl rfl rfl rfl rfl rfl (V_build (vs := []) rfl rfl bdD0) ?_
  refine LQ_wv rfl rfl rfl rfl rfl rfl (V_eqD rfl rfl rfl egD9 Tryd.underlying23 Tryd.underlying5 sz5y (by first | assumption | exact shaP_len _ | exact sgn_len _ _ _ _ | exact macP_len _ _ | exact zd_length | rfl) (by first | assumption | exact shaP_len _ | exact sgn_len _ _ _ _ | exact macP_len _ _ | exact zd_length | rfl) (decide_eq_true rfl)) ?_
  first | refine LQ_wv rfl rfl rfl rfl rfl rfl (V_pickT rfl rfl rfl) ?_ | refine LQ_wv rfl rfl rfl rfl rfl rfl (V_pickF rfl rfl rfl) ?_
  refine LQ_wv rfl rfl rfl rfl rfl rfl (V_move rfl rfl) ?_
  refine LQ_skip rfl rfl rfl rfl rfl rfl rfl ?_
  refine LQ_skip rfl rfl rfl rfl rfl rfl rfl ?_
  refine LQ_skip rfl rfl rfl rfl rfl rfl rfl ?_
  refine LQ_skip rfl rfl rfl rfl rfl rfl rfl ?_
  refine LQ_skip rfl rfl rfl rfl rfl rfl rfl ?_
  refine LQ_skip rfl rfl rfl rfl rfl rfl rfl ?_
  refine LQ_skip rfl rfl rfl rfl rfl rfl rfl ?_
  refine LQ_skip rfl rfl rfl rfl rfl rfl rfl ?_
  first | refine LQ_wv rfl rfl rfl rfl rfl rfl (V_pickT rfl rfl rfl) ?_ | refine LQ_wv rfl rfl rfl rfl rfl rfl (V_pickF rfl rfl rfl) ?_
  first | refine LQ_v rfl rfl rfl (V_pickT rfl rfl rfl) ?_ | refine LQ_v rfl rfl rfl (V_pickF rfl rfl rfl) ?_
  refine LQ_v rfl rfl rfl (V_assign rfl rfl) ?_
  refine LQ_nil ?_
  change J _ _ _ _
  refine J_ret ?_
  change Kret _ _ _ Exit.ret _
  refine ret1 rfl rfl (RV_t rfl) ?_
  exact fun w' h => ⟨rfl, h.fr⟩

theorem HeadBytes_w (er : Int) (r p : List Int) (w : World) (hr : r.length = 32) (hp : p.length = 32) (hrb : Byt r) (hpb : Byt p) (hK : TabK KT 0 w)  :
    Calls Tryd.prog 3 #[.agg (hdL er r p).toArray] w fun e w' => e = .returned (.bool true) ∧ Fr [] w w' := by
  cases he : okE er with
  | false => exact HeadBytes_no er r p w hr hp hrb hpb he hK
  | true => exact HeadBytes_ok er r p w hr hp hrb hpb he hK
end Go.Proofs.YtbckeoidnpfbnaaDoor
