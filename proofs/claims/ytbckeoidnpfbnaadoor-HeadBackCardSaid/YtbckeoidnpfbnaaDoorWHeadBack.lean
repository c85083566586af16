/- What the law comes to. -/
import Derived.Test.YtbckeoidnpfbnaaDoorHeadB
set_option linter.unusedVariables false
set_option linter.unusedSimpArgs false
set_option maxRecDepth 100000
namespace Go.Proofs.YtbckeoidnpfbnaaDoor
open Go.Sx
theorem sg_setS {e : Int} {r p g : List Int} {k : Nat} (hr : r.length = 32) (hp : p.length = 32) (x : Int) : (sgL e r p g).set (65 + k) (.int .u8 x) = sgL e r p (g.set k x) := by
  unfold sgL
  rw [List.set_append_right _ _ (by rw [hdL_len hr hp]; omega), hdL_len hr hp, show 65 + k - 65 = k by omega, dg_set]
theorem sg_setR {e : Int} {r p g : List Int} {k : Nat} (hr : r.length = 32) (hp : p.length = 32) (h : k < 32) (x : Int) : (sgL e r p g).set (1 + k) (.int .u8 x) = sgL e (r.set k x) p g := by
  unfold sgL
  rw [List.set_append_left _ _ (by rw [hdL_len hr hp]; omega), hd_setR (by omega)]
theorem sg_setP {e : Int} {r p g : List Int} {k : Nat} (hr : r.length = 32) (hp : p.length = 32) (h : k < 32) (x : Int) : (sgL e r p g).set (33 + k) (.int .u8 x) = sgL e r (p.set k x) g := by
  unfold sgL
  rw [List.set_append_left _ _ (by rw [hdL_len hr hp]; omega), hd_setP hr]
theorem sg_getS {e : Int} {r p g : List Int} {k : Nat} (hr : r.length = 32) (hp : p.length = 32) (h : k < g.length) : (sgL e r p g)[65 + k]? = some (.int .u8 (g.getD k 0)) := by
  rw [sg_sig hr hp k (by rw [dg_length]; exact h)]
  exact dgD h
theorem sg_getR {e : Int} {r p g : List Int} {k : Nat} (hr : r.length = 32) (hp : p.length = 32) (h : k < 32) : (sgL e r p g)[1 + k]? = some (.int .u8 (r.getD k 0)) := by
  unfold sgL
  rw [List.getElem?_append_left (by rw [hdL_len hr hp]; omega), hd_getR (by omega)]
theorem sg_getP {e : Int} {r p g : List Int} {k : Nat} (hr : r.length = 32) (hp : p.length = 32) (h : k < 32) : (sgL e r p g)[33 + k]? = some (.int .u8 (p.getD k 0)) := by
  unfold sgL
  rw [List.getElem?_append_left (by rw [hdL_len hr hp]; omega), hd_getP hr (by omega)]
theorem chk_own {s : ByteArray} {er : Int} {r p : List Int} (hk : okK s = true) (he : okE er = true) : chk s er r p (sgn s er r p) = 0 := by
  unfold chk
  rw [if_pos ⟨hk, he⟩, if_pos rfl]
theorem chk_two {s : ByteArray} {er : Int} {r p g : List Int} (hk : okK s = true) (he : okE er = true) : (decide (chk s er r p g = 0) == decide (macP (bs s) (lay er r p) = g)) = true := by
  rw [beq_iff_eq, decide_eq_decide]
  unfold chk
  rw [if_pos ⟨hk, he⟩]
  unfold sgn
  by_cases h : macP (bs s) (lay er r p) = g
  · simp [h]
  · simp [h]
theorem sz5z : (Tryd.prog.info? 5).map (·.size) = some 1 := by kernel_rfl
theorem sz23z : (Tryd.prog.info? 23).map (·.size) = some 32 := by kernel_rfl
theorem sz25z : (Tryd.prog.info? 25).map (·.size) = some 65 := by kernel_rfl
theorem sz36z : (Tryd.prog.info? 36).map (·.size) = some 97 := by kernel_rfl
theorem tx9z : Txt Tryd.prog 9 := txt_of Tryd.func9 rfl (by kernel_rfl)
theorem tx12z : Txt Tryd.prog 12 := txt_of Tryd.func12 rfl (by kernel_rfl)
theorem tx14z : Txt Tryd.prog 14 := txt_of Tryd.func14 rfl (by kernel_rfl)
theorem tx16z : Txt Tryd.prog 16 := txt_of Tryd.func16 rfl (by kernel_rfl)
theorem tx17z : Txt Tryd.prog 17 := txt_of Tryd.func17 rfl (by kernel_rfl)
theorem tx19z : Txt Tryd.prog 19 := txt_of Tryd.func19 rfl (by kernel_rfl)
theorem z36z : (Tryd.prog.info? 36).bind (·.zero) = some (.agg (sgL 0 zd zd zd).toArray) := by kernel_rfl

theorem HeadBack_noE (s : ByteArray) (er : Int) (r p : List Int) (at_ by_ : Int) (w : World) (hr : r.length = 32) (hp : p.length = 32) (hrb : Byt r) (hpb : Byt p) (he : okE er = false) (hK : TabK KT 0 w)  :
    Calls Tryd.prog 6 #[.string s, .agg (hdL er r p).toArray, .int .i64 at_, .int .u8 by_] w fun e w' => e = .returned (.bool true) ∧ Fr [] w w' := by
  refine calls_of (args := [.string s, .agg (hdL er r p).toArray, .int .i64 at_, .int .u8 by_]) ([]) ([]) ([]) Tryd.func6 rfl rfl (okW0 _ _ _ _) ?_
  refine J_seq ?_
  refine J_region ?_
  refine L_box rfl rfl rfl rfl rfl (fun b0 => ?_)
  refine L_v rfl rfl rfl (V_assign rfl rfl) ?_
  refine L_nil ?_
  change J _ _ _ _
  refine J_seq ?_
  refine J_seq ?_
  refine J_region ?_
  refine L_v rfl rfl rfl (V_move rfl rfl) ?_
  refine L_v rfl rfl rfl (V_lenS rfl rfl Tryd.underlying9 rfl) ?_
  refine L_v rfl rfl rfl (V_gtr rfl rfl rfl (by first | exact decide_eq_true (by omega) | exact decide_eq_false (by omega) | rfl)) ?_
  refine L_nil ?_
  change J _ _ _ _
  refine J_cond rfl (fun h1 => ?_) (fun h1 => ?_)
  ·
    first | (have h1 := of_decide_eq_true h1) | (have h1 := of_decide_eq_false h1) | skip
    refine J_seq ?_
    refine J_region ?_
    refine L_v rfl rfl rfl (V_assign rfl rfl) ?_
    refine L_nil ?_
    change J _ _ _ _
    refine J_ret ?_
    change Kret _ _ _ Exit.ret _
    refine ret1 rfl rfl (RV_t rfl) ?_
    exact fun w' h => ⟨rfl, h.fr⟩
  ·
    first | (have h1 := of_decide_eq_true h1) | (have h1 := of_decide_eq_false h1) | skip
    refine J_skip ?_
    change J _ _ _ _
    refine J_seq ?_
    refine J_region ?_
    refine L_v rfl rfl rfl (V_move rfl rfl) ?_
    refine L_v rfl rfl rfl (V_loadW 0 rfl rfl rfl Tryd.underlying25 rfl (szd sz25z (by first | exact hdL_len (by first | assumption | exact shaP_len _ | exact sgn_len _ _ _ _ | exact macP_len _ _ | exact zd_length | rfl) (by first | assumption | exact shaP_len _ | exact sgn_len _ _ _ _ | exact macP_len _ _ | exact zd_length | rfl) | (rw [hdL_len (by first | assumption | exact shaP_len _ | exact sgn_len _ _ _ _ | exact macP_len _ _ | exact zd_length | rfl) (by first | assumption | exact shaP_len _ | exact sgn_len _ _ _ _ | exact macP_len _ _ | exact zd_length | rfl), hdL_len (by first | assumption | exact shaP_len _ | exact sgn_len _ _ _ _ | exact macP_len _ _ | exact zd_length | rfl) (by first | assumption | exact shaP_len _ | exact sgn_len _ _ _ _ | exact macP_len _ _ | exact zd_length | rfl)])))) ?_
    refine L_callV rfl rfl rfl rfl rfl rfl tx14z (fun w1 hw => sign_noE s er r p w1 hr hp hrb hpb he) ?_
    refine L_v rfl rfl rfl (V_move rfl rfl) ?_
    refine L_v rfl rfl rfl (V_extract rfl rfl rfl) ?_
    refine L_v rfl rfl rfl (V_extract rfl rfl rfl) ?_
    refine L_alloc rfl rfl rfl rfl z36z (fun b1 => ?_)
    refine L_storeW 1 rfl rfl rfl rfl rfl rfl (szd sz36z (by first | exact sgL_len (by first | assumption | exact shaP_len _ | exact sgn_len _ _ _ _ | exact macP_len _ _ | exact zd_length | rfl) (by first | assumption | exact shaP_len _ | exact sgn_len _ _ _ _ | exact macP_len _ _ | exact zd_length | rfl) (by first | assumption | exact shaP_len _ | exact sgn_len _ _ _ _ | exact macP_len _ _ | exact zd_length | rfl) | (rw [sgL_len (by first | assumption | exact shaP_len _ | exact sgn_len _ _ _ _ | exact macP_len _ _ | exact zd_length | rfl) (by first | assumption | exact shaP_len _ | exact sgn_len _ _ _ _ | exact macP_len _ _ | exact zd_length | rfl) (by first | assumption | exact shaP_len _ | exact sgn_len _ _ _ _ | exact macP_len _ _ | exact zd_length | rfl), sgL_len (by first | assumption | exact shaP_len _ | exact sgn_len _ _ _ _ | exact macP_len _ _ | exact zd_length | rfl) (by first | assumption | exact shaP_len _ | exact sgn_len _ _ _ _ | exact macP_len _ _ | exact zd_length | rfl) (by first | assumption | exact shaP_len _ | exact sgn_len _ _ _ _ | exact macP_len _ _ | exact zd_length | rfl)]))) (by first | exact sgL_one _ _ _ _ | exact hd_one _ _ _ | exact dg_one _) (by first | exact sgL_len (by first | assumption | exact shaP_len _ | exact sgn_len _ _ _ _ | exact macP_len _ _ | exact zd_length | rfl) (by first | assumption | exact shaP_len _ | exact sgn_len _ _ _ _ | exact macP_len _ _ | exact zd_length | rfl) (by first | assumption | exact shaP_len _ | exact sgn_len _ _ _ _ | exact macP_len _ _ | exact zd_length | rfl) | (rw [sgL_len (by first | assumption | exact shaP_len _ | exact sgn_len _ _ _ _ | exact macP_len _ _ | exact zd_length | rfl) (by first | assumption | exact shaP_len _ | exact sgn_len _ _ _ _ | exact macP_len _ _ | exact zd_length | rfl) (by first | assumption | exact shaP_len _ | exact sgn_len _ _ _ _ | exact macP_len _ _ | exact zd_length | rfl), sgL_len (by first | assumption | exact shaP_len _ | exact sgn_len _ _ _ _ | exact macP_len _ _ | exact zd_length | rfl) (by first | assumption | exact shaP_len _ | exact sgn_len _ _ _ _ | exact macP_len _ _ | exact zd_length | rfl) (by first | assumption | exact shaP_len _ | exact sgn_len _ _ _ _ | exact macP_len _ _ | exact zd_length | rfl)])) ?_
    refine L_v rfl rfl rfl (V_assign rfl rfl) ?_
    refine L_nil ?_
    change J _ _ _ _
    refine J_seq ?_
    refine J_seq ?_
    refine J_region ?_
    refine L_v rfl rfl rfl (V_move rfl rfl) ?_
    refine L_v rfl rfl rfl (V_neq rfl rfl rfl (by first | exact decide_eq_true (by omega) | exact decide_eq_false (by omega) | rfl)) ?_
    refine L_nil ?_
    change J _ _ _ _
    refine J_true rfl ?_
    refine J_seq ?_
    refine J_region ?_
    refine L_callV rfl rfl rfl rfl rfl rfl tx16z (fun w1 hw => signs_w w1 (TabK.later hw (by simp) hK)) ?_
    refine L_v rfl rfl rfl (V_move rfl rfl) ?_
    refine L_wcallV rfl rfl rfl rfl rfl rfl rfl rfl rfl tx12z (fun w1 _ => lays_w w1) ?_
    first | refine L_v rfl rfl rfl (V_pickT rfl rfl rfl) ?_ | refine L_v rfl rfl rfl (V_pickF rfl rfl rfl) ?_
    refine L_v rfl rfl rfl (V_move rfl rfl) ?_
    refine L_wv rfl rfl rfl rfl rfl rfl (V_move rfl rfl) ?_
    refine L_wv rfl rfl rfl rfl rfl rfl (V_eql rfl rfl rfl (by first | exact decide_eq_true (by omega) | exact decide_eq_false (by omega) | rfl)) ?_
    first | refine L_v rfl rfl rfl (V_pickT rfl rfl rfl) ?_ | refine L_v rfl rfl rfl (V_pickF rfl rfl rfl) ?_
    refine L_v rfl rfl rfl (V_assign rfl rfl) ?_
    refine L_nil ?_
    change J _ _ _ _
    refine J_ret ?_
    change Kret _ _ _ Exit.ret _
    refine ret1 rfl rfl (RV_t rfl) ?_
    exact fun w' h => ⟨rfl, h.fr⟩

theorem HeadBack_noK (s : ByteArray) (er : Int) (r p : List Int) (at_ by_ : Int) (w : World) (hr : r.length = 32) (hp : p.length = 32) (hrb : Byt r) (hpb : Byt p) (hk : okK s = false) (he : okE er = true) (hK : TabK KT 0 w)  :
    Calls Tryd.prog 6 #[.string s, .agg (hdL er r p).toArray, .int .i64 at_, .int .u8 by_] w fun e w' => e = .returned (.bool true) ∧ Fr [] w w' := by
  refine calls_of (args := [.string s, .agg (hdL er r p).toArray, .int .i64 at_, .int .u8 by_]) ([]) ([]) ([]) Tryd.func6 rfl rfl (okW0 _ _ _ _) ?_
  refine J_seq ?_
  refine J_region ?_
  refine L_box rfl rfl rfl rfl rfl (fun b0 => ?_)
  refine L_v rfl rfl rfl (V_assign rfl rfl) ?_
  refine L_nil ?_
  change J _ _ _ _
  refine J_seq ?_
  refine J_seq ?_
  refine J_region ?_
  refine L_v rfl rfl rfl (V_move rfl rfl) ?_
  refine L_v rfl rfl rfl (V_lenS rfl rfl Tryd.underlying9 rfl) ?_
  refine L_v rfl rfl rfl (V_gtr rfl rfl rfl (by first | exact decide_eq_true (by omega) | exact decide_eq_false (by omega) | rfl)) ?_
  refine L_nil ?_
  change J _ _ _ _
  refine J_cond rfl (fun h1 => ?_) (fun h1 => ?_)
  ·
    first | (have h1 := of_decide_eq_true h1) | (have h1 := of_decide_eq_false h1) | skip
    refine J_seq ?_
    refine J_region ?_
    refine L_v rfl rfl rfl (V_assign rfl rfl) ?_
    refine L_nil ?_
    change J _ _ _ _
    refine J_ret ?_
    change Kret _ _ _ Exit.ret _
    refine ret1 rfl rfl (RV_t rfl) ?_
    exact fun w' h => ⟨rfl, h.fr⟩
  ·
    first | (have h1 := of_decide_eq_true h1) | (have h1 := of_decide_eq_false h1) | skip
    refine J_skip ?_
    change J _ _ _ _
    refine J_seq ?_
    refine J_region ?_
    refine L_v rfl rfl rfl (V_move rfl rfl) ?_
    refine L_v rfl rfl rfl (V_loadW 0 rfl rfl rfl Tryd.underlying25 rfl (szd sz25z (by first | exact hdL_len (by first | assumption | exact shaP_len _ | exact sgn_len _ _ _ _ | exact macP_len _ _ | exact zd_length | rfl) (by first | assumption | exact shaP_len _ | exact sgn_len _ _ _ _ | exact macP_len _ _ | exact zd_length | rfl) | (rw [hdL_len (by first | assumption | exact shaP_len _ | exact sgn_len _ _ _ _ | exact macP_len _ _ | exact zd_length | rfl) (by first | assumption | exact shaP_len _ | exact sgn_len _ _ _ _ | exact macP_len _ _ | exact zd_length | rfl), hdL_len (by first | assumption | exact shaP_len _ | exact sgn_len _ _ _ _ | exact macP_len _ _ | exact zd_length | rfl) (by first | assumption | exact shaP_len _ | exact sgn_len _ _ _ _ | exact macP_len _ _ | exact zd_length | rfl)])))) ?_
    refine L_callV rfl rfl rfl rfl rfl rfl tx14z (fun w1 hw => sign_noK s er r p w1 hr hp hrb hpb hk he) ?_
    refine L_v rfl rfl rfl (V_move rfl rfl) ?_
    refine L_v rfl rfl rfl (V_extract rfl rfl rfl) ?_
    refine L_v rfl rfl rfl (V_extract rfl rfl rfl) ?_
    refine L_alloc rfl rfl rfl rfl z36z (fun b1 => ?_)
    refine L_storeW 1 rfl rfl rfl rfl rfl rfl (szd sz36z (by first | exact sgL_len (by first | assumption | exact shaP_len _ | exact sgn_len _ _ _ _ | exact macP_len _ _ | exact zd_length | rfl) (by first | assumption | exact shaP_len _ | exact sgn_len _ _ _ _ | exact macP_len _ _ | exact zd_length | rfl) (by first | assumption | exact shaP_len _ | exact sgn_len _ _ _ _ | exact macP_len _ _ | exact zd_length | rfl) | (rw [sgL_len (by first | assumption | exact shaP_len _ | exact sgn_len _ _ _ _ | exact macP_len _ _ | exact zd_length | rfl) (by first | assumption | exact shaP_len _ | exact sgn_len _ _ _ _ | exact macP_len _ _ | exact zd_length | rfl) (by first | assumption | exact shaP_len _ | exact sgn_len _ _ _ _ | exact macP_len _ _ | exact zd_length | rfl), sgL_len (by first | assumption | exact shaP_len _ | exact sgn_len _ _ _ _ | exact macP_len _ _ | exact zd_length | rfl) (by first | assumption | exact shaP_len _ | exact sgn_len _ _ _ _ | exact macP_len _ _ | exact zd_length | rfl) (by first | assumption | exact shaP_len _ | exact sgn_len _ _ _ _ | exact macP_len _ _ | exact zd_length | rfl)]))) (by first | exact sgL_one _ _ _ _ | exact hd_one _ _ _ | exact dg_one _) (by first | exact sgL_len (by first | assumption | exact shaP_len _ | exact sgn_len _ _ _ _ | exact macP_len _ _ | exact zd_length | rfl) (by first | assumption | exact shaP_len _ | exact sgn_len _ _ _ _ | exact macP_len _ _ | exact zd_length | rfl) (by first | assumption | exact shaP_len _ | exact sgn_len _ _ _ _ | exact macP_len _ _ | exact zd_length | rfl) | (rw [sgL_len (by first | assumption | exact shaP_len _ | exact sgn_len _ _ _ _ | exact macP_len _ _ | exact zd_length | rfl) (by first | assumption | exact shaP_len _ | exact sgn_len _ _ _ _ | exact macP_len _ _ | exact zd_length | rfl) (by first | assumption | exact shaP_len _ | exact sgn_len _ _ _ _ | exact macP_len _ _ | exact zd_length | rfl), sgL_len (by first | assumption | exact shaP_len _ | exact sgn_len _ _ _ _ | exact macP_len _ _ | exact zd_length | rfl) (by first | assumption | exact shaP_len _ | exact sgn_len _ _ _ _ | exact macP_len _ _ | exact zd_length | rfl) (by first | assumption | exact shaP_len _ | exact sgn_len _ _ _ _ | exact macP_len _ _ | exact zd_length | rfl)])) ?_
    refine L_v rfl rfl rfl (V_assign rfl rfl) ?_
    refine L_nil ?_
    change J _ _ _ _
    refine J_seq ?_
    refine J_seq ?_
    refine J_region ?_
    refine L_v rfl rfl rfl (V_move rfl rfl) ?_
    refine L_v rfl rfl rfl (V_neq rfl rfl rfl (by first | exact decide_eq_true (by omega) | exact decide_eq_false (by omega) | rfl)) ?_
    refine L_nil ?_
    change J _ _ _ _
    refine J_true rfl ?_
    refine J_seq ?_
    refine J_region ?_
    refine L_callV rfl rfl rfl rfl rfl rfl tx16z (fun w1 hw => signs_w w1 (TabK.later hw (by simp) hK)) ?_
    refine L_v rfl rfl rfl (V_move rfl rfl) ?_
    refine L_wcallV rfl rfl rfl rfl rfl rfl rfl rfl rfl tx12z (fun w1 _ => lays_w w1) ?_
    first | refine L_v rfl rfl rfl (V_pickT rfl rfl rfl) ?_ | refine L_v rfl rfl rfl (V_pickF rfl rfl rfl) ?_
    refine L_v rfl rfl rfl (V_move rfl rfl) ?_
    refine L_wv rfl rfl rfl rfl rfl rfl (V_move rfl rfl) ?_
    refine L_wv rfl rfl rfl rfl rfl rfl (V_eql rfl rfl rfl (by first | exact decide_eq_true (by omega) | exact decide_eq_false (by omega) | rfl)) ?_
    first | refine L_v rfl rfl rfl (V_pickT rfl rfl rfl) ?_ | refine L_v rfl rfl rfl (V_pickF rfl rfl rfl) ?_
    refine L_v rfl rfl rfl (V_assign rfl rfl) ?_
    refine L_nil ?_
    change J _ _ _ _
    refine J_ret ?_
    change Kret _ _ _ Exit.ret _
    refine ret1 rfl rfl (RV_t rfl) ?_
    exact fun w' h => ⟨rfl, h.fr⟩

theorem HeadBack_out (s : ByteArray) (er : Int) (r p : List Int) (at_ by_ : Int) (w : World) (hr : r.length = 32) (hp : p.length = 32) (hrb : Byt r) (hpb : Byt p) (hk : okK s = true) (he : okE er = true) (hat : ¬ (0 ≤ at_ ∧ at_ < 96 ∧ by_ ≠ 0)) (hK : TabK KT 0 w)  :
    Calls Tryd.prog 6 #[.string s, .agg (hdL er r p).toArray, .int .i64 at_, .int .u8 by_] w fun e w' => e = .returned (.bool true) ∧ Fr [] w w' := by
  refine calls_of (args := [.string s, .agg (hdL er r p).toArray, .int .i64 at_, .int .u8 by_]) ([]) ([]) ([]) Tryd.func6 rfl rfl (okW0 _ _ _ _) ?_
  refine J_seq ?_
  refine J_region ?_
  refine L_box rfl rfl rfl rfl rfl (fun b0 => ?_)
  refine L_v rfl rfl rfl (V_assign rfl rfl) ?_
  refine L_nil ?_
  change J _ _ _ _
  refine J_seq ?_
  refine J_seq ?_
  refine J_region ?_
  refine L_v rfl rfl rfl (V_move rfl rfl) ?_
  refine L_v rfl rfl rfl (V_lenS rfl rfl Tryd.underlying9 rfl) ?_
  refine L_v rfl rfl rfl (V_gtr rfl rfl rfl (by first | exact decide_eq_true (by omega) | exact decide_eq_false (by omega) | rfl)) ?_
  refine L_nil ?_
  change J _ _ _ _
  refine J_cond rfl (fun h1 => ?_) (fun h1 => ?_)
  ·
    first | (have h1 := of_decide_eq_true h1) | (have h1 := of_decide_eq_false h1) | skip
    refine J_seq ?_
    refine J_region ?_
    refine L_v rfl rfl rfl (V_assign rfl rfl) ?_
    refine L_nil ?_
    change J _ _ _ _
    refine J_ret ?_
    change Kret _ _ _ Exit.ret _
    refine ret1 rfl rfl (RV_t rfl) ?_
    exact fun w' h => ⟨rfl, h.fr⟩
  ·
    first | (have h1 := of_decide_eq_true h1) | (have h1 := of_decide_eq_false h1) | skip
    refine J_skip ?_
    change J _ _ _ _
    refine J_seq ?_
    refine J_region ?_
    refine L_v rfl rfl rfl (V_move rfl rfl) ?_
    refine L_v rfl rfl rfl (V_loadW 0 rfl rfl rfl Tryd.underlying25 rfl (szd sz25z (by first | exact hdL_len (by first | assumption | exact shaP_len _ | exact sgn_len _ _ _ _ | exact macP_len _ _ | exact zd_length | rfl) (by first | assumption | exact shaP_len _ | exact sgn_len _ _ _ _ | exact macP_len _ _ | exact zd_length | rfl) | (rw [hdL_len (by first | assumption | exact shaP_len _ | exact sgn_len _ _ _ _ | exact macP_len _ _ | exact zd_length | rfl) (by first | assumption | exact shaP_len _ | exact sgn_len _ _ _ _ | exact macP_len _ _ | exact zd_length | rfl), hdL_len (by first | assumption | exact shaP_len _ | exact sgn_len _ _ _ _ | exact macP_len _ _ | exact zd_length | rfl) (by first | assumption | exact shaP_len _ | exact sgn_len _ _ _ _ | exact macP_len _ _ | exact zd_length | rfl)])))) ?_
    refine L_callV rfl rfl rfl rfl rfl rfl tx14z (fun w1 hw => sign_ok s er r p w1 hr hp hrb hpb hk he (TabK.later hw (by simp) hK)) ?_
    refine L_v rfl rfl rfl (V_move rfl rfl) ?_
    refine L_v rfl rfl rfl (V_extract rfl rfl rfl) ?_
    refine L_v rfl rfl rfl (V_extract rfl rfl rfl) ?_
    refine L_alloc rfl rfl rfl rfl z36z (fun b1 => ?_)
    refine L_storeW 1 rfl rfl rfl rfl rfl rfl (szd sz36z (by first | exact sgL_len (by first | assumption | exact shaP_len _ | exact sgn_len _ _ _ _ | exact macP_len _ _ | exact zd_length | rfl) (by first | assumption | exact shaP_len _ | exact sgn_len _ _ _ _ | exact macP_len _ _ | exact zd_length | rfl) (by first | assumption | exact shaP_len _ | exact sgn_len _ _ _ _ | exact macP_len _ _ | exact zd_length | rfl) | (rw [sgL_len (by first | assumption | exact shaP_len _ | exact sgn_len _ _ _ _ | exact macP_len _ _ | exact zd_length | rfl) (by first | assumption | exact shaP_len _ | exact sgn_len _ _ _ _ | exact macP_len _ _ | exact zd_length | rfl) (by first | assumption | exact shaP_len _ | exact sgn_len _ _ _ _ | exact macP_len _ _ | exact zd_length | rfl), sgL_len (by first | assumption | exact shaP_len _ | exact sgn_len _ _ _ _ | exact macP_len _ _ | exact zd_length | rfl) (by first | assumption | exact shaP_len _ | exact sgn_len _ _ _ _ | exact macP_len _ _ | exact zd_length | rfl) (by first | assumption | exact shaP_len _ | exact sgn_len _ _ _ _ | exact macP_len _ _ | exact zd_length | rfl)]))) (by first | exact sgL_one _ _ _ _ | exact hd_one _ _ _ | exact dg_one _) (by first | exact sgL_len (by first | assumption | exact shaP_len _ | exact sgn_len _ _ _ _ | exact macP_len _ _ | exact zd_length | rfl) (by first | assumption | exact shaP_len _ | exact sgn_len _ _ _ _ | exact macP_len _ _ | exact zd_length | rfl) (by first | assumption | exact shaP_len _ | exact sgn_len _ _ _ _ | exact macP_len _ _ | exact zd_length | rfl) | (rw [sgL_len (by first | assumption | exact shaP_len _ | exact sgn_len _ _ _ _ | exact macP_len _ _ | exact zd_length | rfl) (by first | assumption | exact shaP_len _ | exact sgn_len _ _ _ _ | exact macP_len _ _ | exact zd_length | rfl) (by first | assumption | exact shaP_len _ | exact sgn_len _ _ _ _ | exact macP_len _ _ | exact zd_length | rfl), sgL_len (by first | assumption | exact shaP_len _ | exact sgn_len _ _ _ _ | exact macP_len _ _ | exact zd_length | rfl) (by first | assumption | exact shaP_len _ | exact sgn_len _ _ _ _ | exact macP_len _ _ | exact zd_length | rfl) (by first | assumption | exact shaP_len _ | exact sgn_len _ _ _ _ | exact macP_len _ _ | exact zd_length | rfl)])) ?_
    refine L_v rfl rfl rfl (V_assign rfl rfl) ?_
    refine L_nil ?_
    change J _ _ _ _
    refine J_seq ?_
    refine J_seq ?_
    refine J_region ?_
    refine L_v rfl rfl rfl (V_move rfl rfl) ?_
    refine L_v rfl rfl rfl (V_neq rfl rfl rfl (by first | exact decide_eq_true (by omega) | exact decide_eq_false (by omega) | rfl)) ?_
    refine L_nil ?_
    change J _ _ _ _
    refine J_false rfl ?_
    refine J_skip ?_
    change J _ _ _ _
    refine J_seq ?_
    refine J_seq ?_
    refine J_region ?_
    refine L_v rfl rfl rfl (V_move rfl rfl) ?_
    refine L_v rfl rfl rfl (V_loadW 1 rfl rfl rfl Tryd.underlying36 rfl (szd sz36z (by first | exact sgL_len (by first | assumption | exact shaP_len _ | exact sgn_len _ _ _ _ | exact macP_len _ _ | exact zd_length | rfl) (by first | assumption | exact shaP_len _ | exact sgn_len _ _ _ _ | exact macP_len _ _ | exact zd_length | rfl) (by first | assumption | exact shaP_len _ | exact sgn_len _ _ _ _ | exact macP_len _ _ | exact zd_length | rfl) | (rw [sgL_len (by first | assumption | exact shaP_len _ | exact sgn_len _ _ _ _ | exact macP_len _ _ | exact zd_length | rfl) (by first | assumption | exact shaP_len _ | exact sgn_len _ _ _ _ | exact macP_len _ _ | exact zd_length | rfl) (by first | assumption | exact shaP_len _ | exact sgn_len _ _ _ _ | exact macP_len _ _ | exact zd_length | rfl), sgL_len (by first | assumption | exact shaP_len _ | exact sgn_len _ _ _ _ | exact macP_len _ _ | exact zd_length | rfl) (by first | assumption | exact shaP_len _ | exact sgn_len _ _ _ _ | exact macP_len _ _ | exact zd_length | rfl) (by first | assumption | exact shaP_len _ | exact sgn_len _ _ _ _ | exact macP_len _ _ | exact zd_length | rfl)])))) ?_
    refine L_callV rfl rfl rfl rfl rfl rfl tx17z (fun w1 hw => chk_b w1 hr hp (sgn_len _ _ _ _) hrb hpb (sgn_byt _ _ _ _) (TabK.later hw (by simp) hK) (chk_own hk he)) ?_
    refine L_v rfl rfl rfl (V_neq rfl rfl rfl (by first | exact decide_eq_true (by omega) | exact decide_eq_false (by omega) | rfl)) ?_
    refine L_v rfl rfl rfl (V_move rfl rfl) ?_
    refine L_wv rfl rfl rfl rfl rfl rfl (V_move rfl rfl) ?_
    refine L_wv rfl rfl rfl rfl rfl rfl (V_lss rfl rfl rfl (by first | exact decide_eq_true (by omega) | exact decide_eq_false (by omega) | rfl)) ?_
    first | refine L_v rfl rfl rfl (V_pickT rfl rfl rfl) ?_ | refine L_v rfl rfl rfl (V_pickF rfl rfl rfl) ?_
    refine L_v rfl rfl rfl (V_move rfl rfl) ?_
    refine L_split 42 rfl (fun h2 => ?_) (fun h2 => ?_)
    ·
      first | (have h2 := of_decide_eq_true h2) | (have h2 := of_decide_eq_false h2) | skip
      refine L_skip rfl rfl rfl rfl rfl rfl rfl ?_
      refine L_skip rfl rfl rfl rfl rfl rfl rfl ?_
      first | refine L_v rfl rfl rfl (V_pickT rfl rfl rfl) ?_ | refine L_v rfl rfl rfl (V_pickF rfl rfl rfl) ?_
      refine L_v rfl rfl rfl (V_move rfl rfl) ?_
      refine L_skip rfl rfl rfl rfl rfl rfl rfl ?_
      refine L_skip rfl rfl rfl rfl rfl rfl rfl ?_
      first | refine L_v rfl rfl rfl (V_pickT rfl rfl rfl) ?_ | refine L_v rfl rfl rfl (V_pickF rfl rfl rfl) ?_
      refine L_nil ?_
      change J _ _ _ _
      refine J_true rfl ?_
      refine J_seq ?_
      refine J_region ?_
      refine L_callV rfl rfl rfl rfl rfl rfl tx16z (fun w1 hw => signs_w w1 (TabK.later hw (by simp) hK)) ?_
      refine L_v rfl rfl rfl (V_move rfl rfl) ?_
      refine L_wcallV rfl rfl rfl rfl rfl rfl rfl rfl rfl tx12z (fun w1 _ => lays_w w1) ?_
      first | refine L_v rfl rfl rfl (V_pickT rfl rfl rfl) ?_ | refine L_v rfl rfl rfl (V_pickF rfl rfl rfl) ?_
      refine L_v rfl rfl rfl (V_move rfl rfl) ?_
      refine L_wv rfl rfl rfl rfl rfl rfl (V_move rfl rfl) ?_
      refine L_wv rfl rfl rfl rfl rfl rfl (V_loadW 1 rfl rfl rfl Tryd.underlying36 rfl (szd sz36z (by first | exact sgL_len (by first | assumption | exact shaP_len _ | exact sgn_len _ _ _ _ | exact macP_len _ _ | exact zd_length | rfl) (by first | assumption | exact shaP_len _ | exact sgn_len _ _ _ _ | exact macP_len _ _ | exact zd_length | rfl) (by first | assumption | exact shaP_len _ | exact sgn_len _ _ _ _ | exact macP_len _ _ | exact zd_length | rfl) | (rw [sgL_len (by first | assumption | exact shaP_len _ | exact sgn_len _ _ _ _ | exact macP_len _ _ | exact zd_length | rfl) (by first | assumption | exact shaP_len _ | exact sgn_len _ _ _ _ | exact macP_len _ _ | exact zd_length | rfl) (by first | assumption | exact shaP_len _ | exact sgn_len _ _ _ _ | exact macP_len _ _ | exact zd_length | rfl), sgL_len (by first | assumption | exact shaP_len _ | exact sgn_len _ _ _ _ | exact macP_len _ _ | exact zd_length | rfl) (by first | assumption | exact shaP_len _ | exact sgn_len _ _ _ _ | exact macP_len _ _ | exact zd_length | rfl) (by first | assumption | exact shaP_len _ | exact sgn_len _ _ _ _ | exact macP_len _ _ | exact zd_length | rfl)])))) ?_
      refine L_wcallV rfl rfl rfl rfl rfl rfl rfl rfl rfl tx17z (fun w1 hw => chk_b w1 hr hp (sgn_len _ _ _ _) hrb hpb (sgn_byt _ _ _ _) (TabK.later hw (by simp) hK) (chk_own hk he)) ?_
      refine L_wv rfl rfl rfl rfl rfl rfl (V_eql rfl rfl rfl (by first | exact decide_eq_true (by omega) | exact decide_eq_false (by omega) | rfl)) ?_
      first | refine L_v rfl rfl rfl (V_pickT rfl rfl rfl) ?_ | refine L_v rfl rfl rfl (V_pickF rfl rfl rfl) ?_
      refine L_v rfl rfl rfl (V_assign rfl rfl) ?_
      refine L_nil ?_
      change J _ _ _ _
      refine J_ret ?_
      change Kret _ _ _ Exit.ret _
      refine ret1 rfl rfl (RV_t rfl) ?_
      exact fun w' h => ⟨rfl, h.fr⟩
    ·
      first | (have h2 := of_decide_eq_true h2) | (have h2 := of_decide_eq_false h2) | skip
      refine L_wv rfl rfl rfl rfl rfl rfl (V_move rfl rfl) ?_
      refine L_wv rfl rfl rfl rfl rfl rfl (V_geq rfl rfl rfl (by first | exact decide_eq_true (by omega) | exact decide_eq_false (by omega) | rfl)) ?_
      first | refine L_v rfl rfl rfl (V_pickT rfl rfl rfl) ?_ | refine L_v rfl rfl rfl (V_pickF rfl rfl rfl) ?_
      refine L_v rfl rfl rfl (V_move rfl rfl) ?_
      refine L_split 46 rfl (fun h3 => ?_) (fun h3 => ?_)
      ·
        first | (have h3 := of_decide_eq_true h3) | (have h3 := of_decide_eq_false h3) | skip
        refine L_skip rfl rfl rfl rfl rfl rfl rfl ?_
        refine L_skip rfl rfl rfl rfl rfl rfl rfl ?_
        first | refine L_v rfl rfl rfl (V_pickT rfl rfl rfl) ?_ | refine L_v rfl rfl rfl (V_pickF rfl rfl rfl) ?_
        refine L_nil ?_
        change J _ _ _ _
        refine J_true rfl ?_
        refine J_seq ?_
        refine J_region ?_
        refine L_callV rfl rfl rfl rfl rfl rfl tx16z (fun w1 hw => signs_w w1 (TabK.later hw (by simp) hK)) ?_
        refine L_v rfl rfl rfl (V_move rfl rfl) ?_
        refine L_wcallV rfl rfl rfl rfl rfl rfl rfl rfl rfl tx12z (fun w1 _ => lays_w w1) ?_
        first | refine L_v rfl rfl rfl (V_pickT rfl rfl rfl) ?_ | refine L_v rfl rfl rfl (V_pickF rfl rfl rfl) ?_
        refine L_v rfl rfl rfl (V_move rfl rfl) ?_
        refine L_wv rfl rfl rfl rfl rfl rfl (V_move rfl rfl) ?_
        refine L_wv rfl rfl rfl rfl rfl rfl (V_loadW 1 rfl rfl rfl Tryd.underlying36 rfl (szd sz36z (by first | exact sgL_len (by first | assumption | exact shaP_len _ | exact sgn_len _ _ _ _ | exact macP_len _ _ | exact zd_length | rfl) (by first | assumption | exact shaP_len _ | exact sgn_len _ _ _ _ | exact macP_len _ _ | exact zd_length | rfl) (by first | assumption | exact shaP_len _ | exact sgn_len _ _ _ _ | exact macP_len _ _ | exact zd_length | rfl) | (rw [sgL_len (by first | assumption | exact shaP_len _ | exact sgn_len _ _ _ _ | exact macP_len _ _ | exact zd_length | rfl) (by first | assumption | exact shaP_len _ | exact sgn_len _ _ _ _ | exact macP_len _ _ | exact zd_length | rfl) (by first | assumption | exact shaP_len _ | exact sgn_len _ _ _ _ | exact macP_len _ _ | exact zd_length | rfl), sgL_len (by first | assumption | exact shaP_len _ | exact sgn_len _ _ _ _ | exact macP_len _ _ | exact zd_length | rfl) (by first | assumption | exact shaP_len _ | exact sgn_len _ _ _ _ | exact macP_len _ _ | exact zd_length | rfl) (by first | assumption | exact shaP_len _ | exact sgn_len _ _ _ _ | exact macP_len _ _ | exact zd_length | rfl)])))) ?_
        refine L_wcallV rfl rfl rfl rfl rfl rfl rfl rfl rfl tx17z (fun w1 hw => chk_b w1 hr hp (sgn_len _ _ _ _) hrb hpb (sgn_byt _ _ _ _) (TabK.later hw (by simp) hK) (chk_own hk he)) ?_
        refine L_wv rfl rfl rfl rfl rfl rfl (V_eql rfl rfl rfl (by first | exact decide_eq_true (by omega) | exact decide_eq_false (by omega) | rfl)) ?_
        first | refine L_v rfl rfl rfl (V_pickT rfl rfl rfl) ?_ | refine L_v rfl rfl rfl (V_pickF rfl rfl rfl) ?_
        refine L_v rfl rfl rfl (V_assign rfl rfl) ?_
        refine L_nil ?_
        change J _ _ _ _
        refine J_ret ?_
        change Kret _ _ _ Exit.ret _
        refine ret1 rfl rfl (RV_t rfl) ?_
        exact fun w' h => ⟨rfl, h.fr⟩
      ·
        first | (have h3 := of_decide_eq_true h3) | (have h3 := of_decide_eq_false h3) | skip
        refine L_wv rfl rfl rfl rfl rfl rfl (V_move rfl rfl) ?_
        refine L_wv rfl rfl rfl rfl rfl rfl (V_eql rfl rfl rfl (by first | exact decide_eq_true (by omega) | exact decide_eq_false (by omega) | rfl)) ?_
        first | refine L_v rfl rfl rfl (V_pickT rfl rfl rfl) ?_ | refine L_v rfl rfl rfl (V_pickF rfl rfl rfl) ?_
        refine L_nil ?_
        change J _ _ _ _
        refine J_true rfl ?_
        refine J_seq ?_
        refine J_region ?_
        refine L_callV rfl rfl rfl rfl rfl rfl tx16z (fun w1 hw => signs_w w1 (TabK.later hw (by simp) hK)) ?_
        refine L_v rfl rfl rfl (V_move rfl rfl) ?_
        refine L_wcallV rfl rfl rfl rfl rfl rfl rfl rfl rfl tx12z (fun w1 _ => lays_w w1) ?_
        first | refine L_v rfl rfl rfl (V_pickT rfl rfl rfl) ?_ | refine L_v rfl rfl rfl (V_pickF rfl rfl rfl) ?_
        refine L_v rfl rfl rfl (V_move rfl rfl) ?_
        refine L_wv rfl rfl rfl rfl rfl rfl (V_move rfl rfl) ?_
        refine L_wv rfl rfl rfl rfl rfl rfl (V_loadW 1 rfl rfl rfl Tryd.underlying36 rfl (szd sz36z (by first | exact sgL_len (by first | assumption | exact shaP_len _ | exact sgn_len _ _ _ _ | exact macP_len _ _ | exact zd_length | rfl) (by first | assumption | exact shaP_len _ | exact sgn_len _ _ _ _ | exact macP_len _ _ | exact zd_length | rfl) (by first | assumption | exact shaP_len _ | exact sgn_len _ _ _ _ | exact macP_len _ _ | exact zd_length | rfl) | (rw [sgL_len (by first | assumption | exact shaP_len _ | exact sgn_len _ _ _ _ | exact macP_len _ _ | exact zd_length | rfl) (by first | assumption | exact shaP_len _ | exact sgn_len _ _ _ _ | exact macP_len _ _ | exact zd_length | rfl) (by first | assumption | exact shaP_len _ | exact sgn_len _ _ _ _ | exact macP_len _ _ | exact zd_length | rfl), sgL_len (by first | assumption | exact shaP_len _ | exact sgn_len _ _ _ _ | exact macP_len _ _ | exact zd_length | rfl) (by first | assumption | exact shaP_len _ | exact sgn_len _ _ _ _ | exact macP_len _ _ | exact zd_length | rfl) (by first | assumption | exact shaP_len _ | exact sgn_len _ _ _ _ | exact macP_len _ _ | exact zd_length | rfl)])))) ?_
        refine L_wcallV rfl rfl rfl rfl rfl rfl rfl rfl rfl tx17z (fun w1 hw => chk_b w1 hr hp (sgn_len _ _ _ _) hrb hpb (sgn_byt _ _ _ _) (TabK.later hw (by simp) hK) (chk_own hk he)) ?_
        refine L_wv rfl rfl rfl rfl rfl rfl (V_eql rfl rfl rfl (by first | exact decide_eq_true (by omega) | exact decide_eq_false (by omega) | rfl)) ?_
        first | refine L_v rfl rfl rfl (V_pickT rfl rfl rfl) ?_ | refine L_v rfl rfl rfl (V_pickF rfl rfl rfl) ?_
        refine L_v rfl rfl rfl (V_assign rfl rfl) ?_
        refine L_nil ?_
        change J _ _ _ _
        refine J_ret ?_
        change Kret _ _ _ Exit.ret _
        refine ret1 rfl rfl (RV_t rfl) ?_
        exact fun w' h => ⟨rfl, h.fr⟩

set_option maxHeartbeats 1000000 in
theorem HeadBack_s (s : ByteArray) (er : Int) (r p : List Int) (at_ by_ : Int) (w : World) (hr : r.length = 32) (hp : p.length = 32) (hrb : Byt r) (hpb : Byt p) (hk : okK s = true) (he : okE er = true) (hat : 0 ≤ at_ ∧ at_ < 32) (hby0 : by_ ≠ 0) (hK : TabK KT 0 w)  :
    Calls Tryd.prog 6 #[.string s, .agg (hdL er r p).toArray, .int .i64 at_, .int .u8 by_] w fun e w' => e = .returned (.bool true) ∧ Fr [] w w' := by
  have h01 : 1 ≤ er ∧ er ≤ 200 := of_decide_eq_true he
  obtain ⟨h0, h1⟩ := h01
  have hq0 := h0
  have hq1 := h1
  have hgl := grp_len er
  have hks : 1 ≤ s.size ∧ s.size ≤ 64 := of_decide_eq_true hk
  obtain ⟨k, hkk⟩ : ∃ k : Nat, at_ % 32 = k := ⟨(at_ % 32).toNat, by omega⟩
  have hk32 : k < 32 := by omega
  have hx : ((sgn s er r p).set k (bits2 .xor .u8 ((sgn s er r p).getD k 0) by_)).length = 32 := by rw [List.length_set]; exact sgn_len _ _ _ _
  have bx : Byt ((sgn s er r p).set k (bits2 .xor .u8 ((sgn s er r p).getD k 0) by_)) := Byt.set (sgn_byt _ _ _ _) _ (bits8 _ _ _)
  refine calls_of (args := [.string s, .agg (hdL er r p).toArray, .int .i64 at_, .int .u8 by_]) ([]) ([]) ([]) Tryd.func6 rfl rfl (okW0 _ _ _ _) ?_
  refine J_seq ?_
  refine J_region ?_
  refine L_box rfl rfl rfl rfl rfl (fun b0 => ?_)
  refine L_v rfl rfl rfl (V_assign rfl rfl) ?_
  refine L_nil ?_
  change J _ _ _ _
  refine J_seq ?_
  refine J_seq ?_
  refine J_region ?_
  refine L_v rfl rfl rfl (V_move rfl rfl) ?_
  refine L_v rfl rfl rfl (V_lenS rfl rfl Tryd.underlying9 rfl) ?_
  refine L_v rfl rfl rfl (V_gtr rfl rfl rfl (by first | exact decide_eq_true (by omega) | exact decide_eq_false (by omega) | rfl)) ?_
  refine L_nil ?_
  change J _ _ _ _
  refine J_cond rfl (fun h1 => ?_) (fun h1 => ?_)
  ·
    first | (have h1 := of_decide_eq_true h1) | (have h1 := of_decide_eq_false h1) | skip
    refine J_seq ?_
    refine J_region ?_
    refine L_v rfl rfl rfl (V_assign rfl rfl) ?_
    refine L_nil ?_
    change J _ _ _ _
    refine J_ret ?_
    change Kret _ _ _ Exit.ret _
    refine ret1 rfl rfl (RV_t rfl) ?_
    exact fun w' h => ⟨rfl, h.fr⟩
  ·
    first | (have h1 := of_decide_eq_true h1) | (have h1 := of_decide_eq_false h1) | skip
    refine J_skip ?_
    change J _ _ _ _
    refine J_seq ?_
    refine J_region ?_
    refine L_v rfl rfl rfl (V_move rfl rfl) ?_
    refine L_v rfl rfl rfl (V_loadW 0 rfl rfl rfl Tryd.underlying25 rfl (szd sz25z (by first | exact hdL_len (by first | assumption | exact shaP_len _ | exact sgn_len _ _ _ _ | exact macP_len _ _ | exact zd_length | rfl) (by first | assumption | exact shaP_len _ | exact sgn_len _ _ _ _ | exact macP_len _ _ | exact zd_length | rfl) | (rw [hdL_len (by first | assumption | exact shaP_len _ | exact sgn_len _ _ _ _ | exact macP_len _ _ | exact zd_length | rfl) (by first | assumption | exact shaP_len _ | exact sgn_len _ _ _ _ | exact macP_len _ _ | exact zd_length | rfl), hdL_len (by first | assumption | exact shaP_len _ | exact sgn_len _ _ _ _ | exact macP_len _ _ | exact zd_length | rfl) (by first | assumption | exact shaP_len _ | exact sgn_len _ _ _ _ | exact macP_len _ _ | exact zd_length | rfl)])))) ?_
    refine L_callV rfl rfl rfl rfl rfl rfl tx14z (fun w1 hw => sign_ok s er r p w1 hr hp hrb hpb hk he (TabK.later hw (by simp) hK)) ?_
    refine L_v rfl rfl rfl (V_move rfl rfl) ?_
    refine L_v rfl rfl rfl (V_extract rfl rfl rfl) ?_
    refine L_v rfl rfl rfl (V_extract rfl rfl rfl) ?_
    refine L_alloc rfl rfl rfl rfl z36z (fun b1 => ?_)
    refine L_storeW 1 rfl rfl rfl rfl rfl rfl (szd sz36z (by first | exact sgL_len (by first | assumption | exact shaP_len _ | exact sgn_len _ _ _ _ | exact macP_len _ _ | exact zd_length | rfl) (by first | assumption | exact shaP_len _ | exact sgn_len _ _ _ _ | exact macP_len _ _ | exact zd_length | rfl) (by first | assumption | exact shaP_len _ | exact sgn_len _ _ _ _ | exact macP_len _ _ | exact zd_length | rfl) | (rw [sgL_len (by first | assumption | exact shaP_len _ | exact sgn_len _ _ _ _ | exact macP_len _ _ | exact zd_length | rfl) (by first | assumption | exact shaP_len _ | exact sgn_len _ _ _ _ | exact macP_len _ _ | exact zd_length | rfl) (by first | assumption | exact shaP_len _ | exact sgn_len _ _ _ _ | exact macP_len _ _ | exact zd_length | rfl), sgL_len (by first | assumption | exact shaP_len _ | exact sgn_len _ _ _ _ | exact macP_len _ _ | exact zd_length | rfl) (by first | assumption | exact shaP_len _ | exact sgn_len _ _ _ _ | exact macP_len _ _ | exact zd_length | rfl) (by first | assumption | exact shaP_len _ | exact sgn_len _ _ _ _ | exact macP_len _ _ | exact zd_length | rfl)]))) (by first | exact sgL_one _ _ _ _ | exact hd_one _ _ _ | exact dg_one _) (by first | exact sgL_len (by first | assumption | exact shaP_len _ | exact sgn_len _ _ _ _ | exact macP_len _ _ | exact zd_length | rfl) (by first | assumption | exact shaP_len _ | exact sgn_len _ _ _ _ | exact macP_len _ _ | exact zd_length | rfl) (by first | assumption | exact shaP_len _ | exact sgn_len _ _ _ _ | exact macP_len _ _ | exact zd_length | rfl) | (rw [sgL_len (by first | assumption | exact shaP_len _ | exact sgn_len _ _ _ _ | exact macP_len _ _ | exact zd_length | rfl) (by first | assumption | exact shaP_len _ | exact sgn_len _ _ _ _ | exact macP_len _ _ | exact zd_length | rfl) (by first | assumption | exact shaP_len _ | exact sgn_len _ _ _ _ | exact macP_len _ _ | exact zd_length | rfl), sgL_len (by first | assumption | exact shaP_len _ | exact sgn_len _ _ _ _ | exact macP_len _ _ | exact zd_length | rfl) (by first | assumption | exact shaP_len _ | exact sgn_len _ _ _ _ | exact macP_len _ _ | exact zd_length | rfl) (by first | assumption | exact shaP_len _ | exact sgn_len _ _ _ _ | exact macP_len _ _ | exact zd_length | rfl)])) ?_
    refine L_v rfl rfl rfl (V_assign rfl rfl) ?_
    refine L_nil ?_
    change J _ _ _ _
    refine J_seq ?_
    refine J_seq ?_
    refine J_region ?_
    refine L_v rfl rfl rfl (V_move rfl rfl) ?_
    refine L_v rfl rfl rfl (V_neq rfl rfl rfl (by first | exact decide_eq_true (by omega) | exact decide_eq_false (by omega) | rfl)) ?_
    refine L_nil ?_
    change J _ _ _ _
    refine J_false rfl ?_
    refine J_skip ?_
    change J _ _ _ _
    refine J_seq ?_
    refine J_seq ?_
    refine J_region ?_
    refine L_v rfl rfl rfl (V_move rfl rfl) ?_
    refine L_v rfl rfl rfl (V_loadW 1 rfl rfl rfl Tryd.underlying36 rfl (szd sz36z (by first | exact sgL_len (by first | assumption | exact shaP_len _ | exact sgn_len _ _ _ _ | exact macP_len _ _ | exact zd_length | rfl) (by first | assumption | exact shaP_len _ | exact sgn_len _ _ _ _ | exact macP_len _ _ | exact zd_length | rfl) (by first | assumption | exact shaP_len _ | exact sgn_len _ _ _ _ | exact macP_len _ _ | exact zd_length | rfl) | (rw [sgL_len (by first | assumption | exact shaP_len _ | exact sgn_len _ _ _ _ | exact macP_len _ _ | exact zd_length | rfl) (by first | assumption | exact shaP_len _ | exact sgn_len _ _ _ _ | exact macP_len _ _ | exact zd_length | rfl) (by first | assumption | exact shaP_len _ | exact sgn_len _ _ _ _ | exact macP_len _ _ | exact zd_length | rfl), sgL_len (by first | assumption | exact shaP_len _ | exact sgn_len _ _ _ _ | exact macP_len _ _ | exact zd_length | rfl) (by first | assumption | exact shaP_len _ | exact sgn_len _ _ _ _ | exact macP_len _ _ | exact zd_length | rfl) (by first | assumption | exact shaP_len _ | exact sgn_len _ _ _ _ | exact macP_len _ _ | exact zd_length | rfl)])))) ?_
    refine L_callV rfl rfl rfl rfl rfl rfl tx17z (fun w1 hw => chk_b w1 hr hp (sgn_len _ _ _ _) hrb hpb (sgn_byt _ _ _ _) (TabK.later hw (by simp) hK) (chk_own hk he)) ?_
    refine L_v rfl rfl rfl (V_neq rfl rfl rfl (by first | exact decide_eq_true (by omega) | exact decide_eq_false (by omega) | rfl)) ?_
    refine L_v rfl rfl rfl (V_move rfl rfl) ?_
    refine L_wv rfl rfl rfl rfl rfl rfl (V_move rfl rfl) ?_
    refine L_wv rfl rfl rfl rfl rfl rfl (V_lss rfl rfl rfl (by first | exact decide_eq_true (by omega) | exact decide_eq_false (by omega) | rfl)) ?_
    first | refine L_v rfl rfl rfl (V_pickT rfl rfl rfl) ?_ | refine L_v rfl rfl rfl (V_pickF rfl rfl rfl) ?_
    refine L_v rfl rfl rfl (V_move rfl rfl) ?_
    refine L_wv rfl rfl rfl rfl rfl rfl (V_move rfl rfl) ?_
    refine L_wv rfl rfl rfl rfl rfl rfl (V_geq rfl rfl rfl (by first | exact decide_eq_true (by omega) | exact decide_eq_false (by omega) | rfl)) ?_
    first | refine L_v rfl rfl rfl (V_pickT rfl rfl rfl) ?_ | refine L_v rfl rfl rfl (V_pickF rfl rfl rfl) ?_
    refine L_v rfl rfl rfl (V_move rfl rfl) ?_
    refine L_wv rfl rfl rfl rfl rfl rfl (V_move rfl rfl) ?_
    refine L_wv rfl rfl rfl rfl rfl rfl (V_eql rfl rfl rfl (by first | exact decide_eq_true (by omega) | exact decide_eq_false (by omega) | rfl)) ?_
    first | refine L_v rfl rfl rfl (V_pickT rfl rfl rfl) ?_ | refine L_v rfl rfl rfl (V_pickF rfl rfl rfl) ?_
    refine L_nil ?_
    change J _ _ _ _
    refine J_false rfl ?_
    refine J_skip ?_
    change J _ _ _ _
    refine J_seq ?_
    refine J_region ?_
    refine L_v rfl rfl rfl (V_loadW 1 rfl rfl rfl Tryd.underlying36 rfl (szd sz36z (by first | exact sgL_len (by first | assumption | exact shaP_len _ | exact sgn_len _ _ _ _ | exact macP_len _ _ | exact zd_length | rfl) (by first | assumption | exact shaP_len _ | exact sgn_len _ _ _ _ | exact macP_len _ _ | exact zd_length | rfl) (by first | assumption | exact shaP_len _ | exact sgn_len _ _ _ _ | exact macP_len _ _ | exact zd_length | rfl) | (rw [sgL_len (by first | assumption | exact shaP_len _ | exact sgn_len _ _ _ _ | exact macP_len _ _ | exact zd_length | rfl) (by first | assumption | exact shaP_len _ | exact sgn_len _ _ _ _ | exact macP_len _ _ | exact zd_length | rfl) (by first | assumption | exact shaP_len _ | exact sgn_len _ _ _ _ | exact macP_len _ _ | exact zd_length | rfl), sgL_len (by first | assumption | exact shaP_len _ | exact sgn_len _ _ _ _ | exact macP_len _ _ | exact zd_length | rfl) (by first | assumption | exact shaP_len _ | exact sgn_len _ _ _ _ | exact macP_len _ _ | exact zd_length | rfl) (by first | assumption | exact shaP_len _ | exact sgn_len _ _ _ _ | exact macP_len _ _ | exact zd_length | rfl)])))) ?_
    refine L_alloc rfl rfl rfl rfl z36z (fun b2 => ?_)
    refine L_storeW 2 rfl rfl rfl rfl rfl rfl (szd sz36z (by first | exact sgL_len (by first | assumption | exact shaP_len _ | exact sgn_len _ _ _ _ | exact macP_len _ _ | exact zd_length | rfl) (by first | assumption | exact shaP_len _ | exact sgn_len _ _ _ _ | exact macP_len _ _ | exact zd_length | rfl) (by first | assumption | exact shaP_len _ | exact sgn_len _ _ _ _ | exact macP_len _ _ | exact zd_length | rfl) | (rw [sgL_len (by first | assumption | exact shaP_len _ | exact sgn_len _ _ _ _ | exact macP_len _ _ | exact zd_length | rfl) (by first | assumption | exact shaP_len _ | exact sgn_len _ _ _ _ | exact macP_len _ _ | exact zd_length | rfl) (by first | assumption | exact shaP_len _ | exact sgn_len _ _ _ _ | exact macP_len _ _ | exact zd_length | rfl), sgL_len (by first | assumption | exact shaP_len _ | exact sgn_len _ _ _ _ | exact macP_len _ _ | exact zd_length | rfl) (by first | assumption | exact shaP_len _ | exact sgn_len _ _ _ _ | exact macP_len _ _ | exact zd_length | rfl) (by first | assumption | exact shaP_len _ | exact sgn_len _ _ _ _ | exact macP_len _ _ | exact zd_length | rfl)]))) (by first | exact sgL_one _ _ _ _ | exact hd_one _ _ _ | exact dg_one _) (by first | exact sgL_len (by first | assumption | exact shaP_len _ | exact sgn_len _ _ _ _ | exact macP_len _ _ | exact zd_length | rfl) (by first | assumption | exact shaP_len _ | exact sgn_len _ _ _ _ | exact macP_len _ _ | exact zd_length | rfl) (by first | assumption | exact shaP_len _ | exact sgn_len _ _ _ _ | exact macP_len _ _ | exact zd_length | rfl) | (rw [sgL_len (by first | assumption | exact shaP_len _ | exact sgn_len _ _ _ _ | exact macP_len _ _ | exact zd_length | rfl) (by first | assumption | exact shaP_len _ | exact sgn_len _ _ _ _ | exact macP_len _ _ | exact zd_length | rfl) (by first | assumption | exact shaP_len _ | exact sgn_len _ _ _ _ | exact macP_len _ _ | exact zd_length | rfl), sgL_len (by first | assumption | exact shaP_len _ | exact sgn_len _ _ _ _ | exact macP_len _ _ | exact zd_length | rfl) (by first | assumption | exact shaP_len _ | exact sgn_len _ _ _ _ | exact macP_len _ _ | exact zd_length | rfl) (by first | assumption | exact shaP_len _ | exact sgn_len _ _ _ _ | exact macP_len _ _ | exact zd_length | rfl)])) ?_
    refine L_nil ?_
    change J _ _ _ _
    refine J_seq ?_
    refine J_seq ?_
    refine J_region ?_
    refine L_v rfl rfl rfl (V_move rfl rfl) ?_
    refine L_v rfl rfl rfl (V_quo rfl rfl rfl (by omega) (q64 (by omega) (by omega) (by omega))) ?_
    refine L_nil ?_
    change J _ _ _ _
    refine J_block ?_
    refine J_seq ?_
    refine J_region ?_
    refine L_v rfl rfl rfl (V_eql rfl rfl rfl (by first | exact decide_eq_true (by omega) | exact decide_eq_false (by omega) | rfl)) ?_
    refine L_v rfl rfl rfl (V_assign rfl rfl) ?_
    refine L_nil ?_
    change J _ _ _ _
    refine J_true rfl ?_
    refine J_region ?_
    refine L_v rfl rfl rfl (V_move rfl rfl) ?_
    refine L_v rfl rfl rfl (V_rem (r := (k : Int)) rfl rfl rfl (by omega) (by rw [r64 (by omega)]; exact hkk)) ?_
    refine L_v rfl rfl rfl (V_move rfl rfl) ?_
    refine L_v rfl rfl rfl (V_rem (r := (k : Int)) rfl rfl rfl (by omega) (by rw [r64 (by omega)]; exact hkk)) ?_
    refine L_v rfl rfl rfl (V_fieldAddr rfl rfl Tryd.underlying36 rfl sz23z rfl) ?_
    refine L_v rfl rfl rfl (V_indexArr (off' := 65 + k) rfl rfl rfl Tryd.underlying23 sz5z (by omega) (by omega) (show 0 + 65 + ((k : Nat) : Int).toNat * 1 = 65 + k by omega)) ?_
    refine L_v rfl rfl rfl (V_load1 2 rfl rfl rfl Tryd.underlying5 rfl (sg_getS hr hp (by rw [sgn_len]; omega))) ?_
    refine L_v rfl rfl rfl (V_move rfl rfl) ?_
    refine L_v rfl rfl rfl (V_xor rfl rfl rfl rfl) ?_
    refine L_v rfl rfl rfl (V_fieldAddr rfl rfl Tryd.underlying36 rfl sz23z rfl) ?_
    refine L_v rfl rfl rfl (V_indexArr (off' := 65 + k) rfl rfl rfl Tryd.underlying23 sz5z (by omega) (by omega) (show 0 + 65 + ((k : Nat) : Int).toNat * 1 = 65 + k by omega)) ?_
    refine L_store1 2 rfl rfl rfl rfl rfl rfl rfl sz5z (by rw [sgL_len hr hp (sgn_len _ _ _ _)]; omega) (sg_setS hr hp _) ?_
    refine L_nil ?_
    change J _ _ _ _
    refine J_seq ?_
    refine J_region ?_
    refine L_v rfl rfl rfl (V_fieldAddr rfl rfl Tryd.underlying36 rfl sz25z rfl) ?_
    refine L_v rfl rfl rfl (V_loadP 2 (vs := hdL er r p) rfl rfl rfl Tryd.underlying25 rfl (szd sz25z (by first | exact hdL_len (by first | assumption | exact shaP_len _ | exact sgn_len _ _ _ _ | exact macP_len _ _ | exact zd_length | rfl) (by first | assumption | exact shaP_len _ | exact sgn_len _ _ _ _ | exact macP_len _ _ | exact zd_length | rfl) | (rw [hdL_len (by first | assumption | exact shaP_len _ | exact sgn_len _ _ _ _ | exact macP_len _ _ | exact zd_length | rfl) (by first | assumption | exact shaP_len _ | exact sgn_len _ _ _ _ | exact macP_len _ _ | exact zd_length | rfl), hdL_len (by first | assumption | exact shaP_len _ | exact sgn_len _ _ _ _ | exact macP_len _ _ | exact zd_length | rfl) (by first | assumption | exact shaP_len _ | exact sgn_len _ _ _ _ | exact macP_len _ _ | exact zd_length | rfl)]))) (sg_hd hr hp)) ?_
    refine L_callB rfl rfl rfl rfl rfl rfl tx9z (fun w1 hw => hbytes_ok er r p w1 hr hp hq0 hq1) (fun g1 r1 c1 hl1 hc1 hr1 => ?_)
    refine L_v rfl rfl rfl (V_move rfl rfl) ?_
    refine L_v rfl rfl rfl (V_extract rfl rfl rfl) ?_
    refine L_v rfl rfl rfl (V_extract rfl rfl rfl) ?_
    refine L_v rfl rfl rfl (V_assign rfl rfl) ?_
    refine L_v rfl rfl rfl (V_assign rfl rfl) ?_
    refine L_nil ?_
    change J _ _ _ _
    refine J_seq ?_
    refine J_region ?_
    refine L_v rfl rfl rfl (V_move rfl rfl) ?_
    refine L_v rfl rfl rfl (V_loadW 2 rfl rfl rfl Tryd.underlying36 rfl (szd sz36z (by first | exact sgL_len (by first | assumption | exact shaP_len _ | exact sgn_len _ _ _ _ | exact macP_len _ _ | exact zd_length | rfl) (by first | assumption | exact shaP_len _ | exact sgn_len _ _ _ _ | exact macP_len _ _ | exact zd_length | rfl) (by first | assumption | exact shaP_len _ | exact sgn_len _ _ _ _ | exact macP_len _ _ | exact zd_length | rfl) | (rw [sgL_len (by first | assumption | exact shaP_len _ | exact sgn_len _ _ _ _ | exact macP_len _ _ | exact zd_length | rfl) (by first | assumption | exact shaP_len _ | exact sgn_len _ _ _ _ | exact macP_len _ _ | exact zd_length | rfl) (by first | assumption | exact shaP_len _ | exact sgn_len _ _ _ _ | exact macP_len _ _ | exact zd_length | rfl), sgL_len (by first | assumption | exact shaP_len _ | exact sgn_len _ _ _ _ | exact macP_len _ _ | exact zd_length | rfl) (by first | assumption | exact shaP_len _ | exact sgn_len _ _ _ _ | exact macP_len _ _ | exact zd_length | rfl) (by first | assumption | exact shaP_len _ | exact sgn_len _ _ _ _ | exact macP_len _ _ | exact zd_length | rfl)])))) ?_
    refine L_callV rfl rfl rfl rfl rfl rfl tx17z (fun w1 hw => chk_w s er r p ((sgn s er r p).set k (bits2 .xor .u8 ((sgn s er r p).getD k 0) by_)) w1 hr hp hx hrb hpb bx (TabK.later hw (by simp) hK)) ?_
    refine L_v rfl rfl rfl (V_assign rfl rfl) ?_
    refine L_nil ?_
    change J _ _ _ _
    refine J_seq ?_
    refine J_regionO (.one 0 (.pure 1 (.one 2 (.pure 3 (.pure 4 (.pure 5 (.pure 6 (.pure 7 (.pure 8 (.pure 9 (.pure 10 (.pure 11 (.pure 13 (.pure 15 (.pure 16 (.one 12 (.one 14 (.pure 17 (.pure 18 (.pure 19 (.pure 20 (.nil)))))))))))))))))))))) ([(b2, row 36 (sgL er r p ((sgn s er r p).set k (bits2 .xor .u8 ((sgn s er r p).getD k 0) by_))))]) _ (Pk.of_sub (List.Sublist.cons _ (List.Sublist.cons _ (List.Sublist.cons_cons _ (List.nil_sublist _))))) (fun f hf => hf) rfl rfl (by kernel_rfl) ?_
    refine LO_callV rfl rfl rfl rfl rfl rfl rfl rfl tx16z (fun w1 hw => signs_w w1 (TabK.later hw (by simp) hK)) (Pk.of_sub (List.Sublist.cons _ (List.Sublist.cons _ (List.Sublist.cons_cons _ (List.nil_sublist _))))) (fun f hf => hf) ?_
    refine LO_v rfl rfl rfl rfl (V_move rfl rfl) ?_
    refine LO_wcallV rfl rfl rfl rfl rfl rfl rfl rfl rfl rfl rfl tx12z (fun w1 _ => lays_w w1) (Pk.of_sub (List.Sublist.cons _ (List.Sublist.cons _ (List.Sublist.cons_cons _ (List.nil_sublist _))))) (fun f hf => hf) ?_
    first | refine LO_v rfl rfl rfl rfl (V_pickT rfl rfl rfl) ?_ | refine LO_v rfl rfl rfl rfl (V_pickF rfl rfl rfl) ?_
    refine LO_v rfl rfl rfl rfl (V_move rfl rfl) ?_
    refine LO_wv rfl rfl rfl rfl rfl rfl rfl (V_move rfl rfl) ?_
    refine LO_wv rfl rfl rfl rfl rfl rfl rfl (V_eql rfl rfl rfl (by first | exact decide_eq_true (by omega) | exact decide_eq_false (by omega) | rfl)) ?_
    first | refine LO_v rfl rfl rfl rfl (V_pickT rfl rfl rfl) ?_ | refine LO_v rfl rfl rfl rfl (V_pickF rfl rfl rfl) ?_
    refine LO_v rfl rfl rfl rfl (V_move rfl rfl) ?_
    refine LO_wv rfl rfl rfl rfl rfl rfl rfl (V_move rfl rfl) ?_
    refine LO_wv rfl rfl rfl rfl rfl rfl rfl (V_eql rfl rfl rfl (by first | exact decide_eq_true (by omega) | exact decide_eq_false (by omega) | rfl)) ?_
    refine LO_wv rfl rfl rfl rfl rfl rfl rfl (V_move rfl rfl) ?_
    refine LO_wv rfl rfl rfl rfl rfl rfl rfl (V_move rfl rfl) ?_
    refine LO_wv rfl rfl rfl rfl rfl rfl rfl (V_fieldAddr rfl rfl Tryd.underlying36 rfl sz23z rfl) ?_
    refine LO_wv rfl rfl rfl rfl rfl rfl rfl (V_loadP 0 (vs := dg ((sgn s er r p).set k (bits2 .xor .u8 ((sgn s er r p).getD k 0) by_))) rfl rfl rfl Tryd.underlying23 rfl (szd sz23z (by first | (rw [dg_length]; exact (by first | assumption | exact shaP_len _ | exact sgn_len _ _ _ _ | exact macP_len _ _ | exact zd_length | rfl)) | exact (rfl : (dg zd).length = (dg zd).length) | (rw [dg_length, dg_length, show zd.length = 32 from rfl]; exact Eq.symm (by first | assumption | exact shaP_len _ | exact sgn_len _ _ _ _ | exact macP_len _ _ | exact zd_length | rfl)))) (sg_sig hr hp)) ?_
    refine LO_sw rfl rfl rfl rfl rfl rfl (S_toBytesC rfl rfl rfl rfl Tryd.underlying9 Tryd.underlying26 Tryd.underlying5 (fun b4 c4 r4 z4 hc4 hr4 => ⟨(Pk.app (Pk.of_sub (List.Sublist.cons _ (List.Sublist.cons _ (List.Sublist.cons_cons _ (List.nil_sublist _))))) _), fun f hf => hf, ?_⟩)) 
    refine LO_wcallV rfl rfl rfl rfl rfl rfl rfl rfl rfl rfl rfl tx19z (fun w1 hw => mac_w (bs s) (some ⟨b4, 0, none⟩) s.size c4 (lay er r p) (some ⟨g1, 0, none⟩) (0 + (grp er).length + 32 + 32) c1 w1 (SlB.of_own hw (i := 4) rfl (bs_length _) c4) (bs_byt s) (SlB.of_own hw (i := 3) (l := lay er r p) rfl hl1 c1) (lay_byt (by omega) hq1 hrb hpb) hc4 hc1 (TabK.later hw (by simp) hK) (by rw [bs_length]; omega) (by rw [lay_len hr hp]; omega)) (Pk.app (Pk.of_sub (List.Sublist.cons _ (List.Sublist.cons _ (List.Sublist.cons_cons _ (List.nil_sublist _))))) _) (fun f hf => hf) ?_
    refine LO_wv rfl rfl rfl rfl rfl rfl rfl (V_eqD rfl rfl rfl egD9 Tryd.underlying23 Tryd.underlying5 sz5z (by first | assumption | exact shaP_len _ | exact sgn_len _ _ _ _ | exact macP_len _ _ | exact zd_length | rfl) (by first | assumption | exact shaP_len _ | exact sgn_len _ _ _ _ | exact macP_len _ _ | exact zd_length | rfl) rfl) ?_
    refine LO_wv rfl rfl rfl rfl rfl rfl rfl (V_eqB rfl rfl rfl Tryd.underlying4 (chk_two hk he)) ?_
    first | refine LO_v rfl rfl rfl rfl (V_pickT rfl rfl rfl) ?_ | refine LO_v rfl rfl rfl rfl (V_pickF rfl rfl rfl) ?_
    refine LO_v rfl rfl rfl rfl (V_assign rfl rfl) ?_
    refine LO_nil ?_
    change J _ _ _ _
    refine J_ret ?_
    change Kret _ _ _ Exit.ret _
    refine ret1 rfl rfl (RV_t rfl) ?_
    exact fun w' h => ⟨rfl, h.fr⟩

set_option maxHeartbeats 1000000 in
theorem HeadBack_r (s : ByteArray) (er : Int) (r p : List Int) (at_ by_ : Int) (w : World) (hr : r.length = 32) (hp : p.length = 32) (hrb : Byt r) (hpb : Byt p) (hk : okK s = true) (he : okE er = true) (hat : 32 ≤ at_ ∧ at_ < 64) (hby0 : by_ ≠ 0) (hK : TabK KT 0 w)  :
    Calls Tryd.prog 6 #[.string s, .agg (hdL er r p).toArray, .int .i64 at_, .int .u8 by_] w fun e w' => e = .returned (.bool true) ∧ Fr [] w w' := by
  have h01 : 1 ≤ er ∧ er ≤ 200 := of_decide_eq_true he
  obtain ⟨h0, h1⟩ := h01
  have hq0 := h0
  have hq1 := h1
  have hgl := grp_len er
  have hks : 1 ≤ s.size ∧ s.size ≤ 64 := of_decide_eq_true hk
  obtain ⟨k, hkk⟩ : ∃ k : Nat, at_ % 32 = k := ⟨(at_ % 32).toNat, by omega⟩
  have hk32 : k < 32 := by omega
  have hx : (r.set k (bits2 .xor .u8 (r.getD k 0) by_)).length = 32 := by rw [List.length_set]; exact hr
  have bx : Byt (r.set k (bits2 .xor .u8 (r.getD k 0) by_)) := Byt.set hrb _ (bits8 _ _ _)
  refine calls_of (args := [.string s, .agg (hdL er r p).toArray, .int .i64 at_, .int .u8 by_]) ([]) ([]) ([]) Tryd.func6 rfl rfl (okW0 _ _ _ _) ?_
  refine J_seq ?_
  refine J_region ?_
  refine L_box rfl rfl rfl rfl rfl (fun b0 => ?_)
  refine L_v rfl rfl rfl (V_assign rfl rfl) ?_
  refine L_nil ?_
  change J _ _ _ _
  refine J_seq ?_
  refine J_seq ?_
  refine J_region ?_
  refine L_v rfl rfl rfl (V_move rfl rfl) ?_
  refine L_v rfl rfl rfl (V_lenS rfl rfl Tryd.underlying9 rfl) ?_
  refine L_v rfl rfl rfl (V_gtr rfl rfl rfl (by first | exact decide_eq_true (by omega) | exact decide_eq_false (by omega) | rfl)) ?_
  refine L_nil ?_
  change J _ _ _ _
  refine J_cond rfl (fun h1 => ?_) (fun h1 => ?_)
  ·
    first | (have h1 := of_decide_eq_true h1) | (have h1 := of_decide_eq_false h1) | skip
    refine J_seq ?_
    refine J_region ?_
    refine L_v rfl rfl rfl (V_assign rfl rfl) ?_
    refine L_nil ?_
    change J _ _ _ _
    refine J_ret ?_
    change Kret _ _ _ Exit.ret _
    refine ret1 rfl rfl (RV_t rfl) ?_
    exact fun w' h => ⟨rfl, h.fr⟩
  ·
    first | (have h1 := of_decide_eq_true h1) | (have h1 := of_decide_eq_false h1) | skip
    refine J_skip ?_
    change J _ _ _ _
    refine J_seq ?_
    refine J_region ?_
    refine L_v rfl rfl rfl (V_move rfl rfl) ?_
    refine L_v rfl rfl rfl (V_loadW 0 rfl rfl rfl Tryd.underlying25 rfl (szd sz25z (by first | exact hdL_len (by first | assumption | exact shaP_len _ | exact sgn_len _ _ _ _ | exact macP_len _ _ | exact zd_length | rfl) (by first | assumption | exact shaP_len _ | exact sgn_len _ _ _ _ | exact macP_len _ _ | exact zd_length | rfl) | (rw [hdL_len (by first | assumption | exact shaP_len _ | exact sgn_len _ _ _ _ | exact macP_len _ _ | exact zd_length | rfl) (by first | assumption | exact shaP_len _ | exact sgn_len _ _ _ _ | exact macP_len _ _ | exact zd_length | rfl), hdL_len (by first | assumption | exact shaP_len _ | exact sgn_len _ _ _ _ | exact macP_len _ _ | exact zd_length | rfl) (by first | assumption | exact shaP_len _ | exact sgn_len _ _ _ _ | exact macP_len _ _ | exact zd_length | rfl)])))) ?_
    refine L_callV rfl rfl rfl rfl rfl rfl tx14z (fun w1 hw => sign_ok s er r p w1 hr hp hrb hpb hk he (TabK.later hw (by simp) hK)) ?_
    refine L_v rfl rfl rfl (V_move rfl rfl) ?_
    refine L_v rfl rfl rfl (V_extract rfl rfl rfl) ?_
    refine L_v rfl rfl rfl (V_extract rfl rfl rfl) ?_
    refine L_alloc rfl rfl rfl rfl z36z (fun b1 => ?_)
    refine L_storeW 1 rfl rfl rfl rfl rfl rfl (szd sz36z (by first | exact sgL_len (by first | assumption | exact shaP_len _ | exact sgn_len _ _ _ _ | exact macP_len _ _ | exact zd_length | rfl) (by first | assumption | exact shaP_len _ | exact sgn_len _ _ _ _ | exact macP_len _ _ | exact zd_length | rfl) (by first | assumption | exact shaP_len _ | exact sgn_len _ _ _ _ | exact macP_len _ _ | exact zd_length | rfl) | (rw [sgL_len (by first | assumption | exact shaP_len _ | exact sgn_len _ _ _ _ | exact macP_len _ _ | exact zd_length | rfl) (by first | assumption | exact shaP_len _ | exact sgn_len _ _ _ _ | exact macP_len _ _ | exact zd_length | rfl) (by first | assumption | exact shaP_len _ | exact sgn_len _ _ _ _ | exact macP_len _ _ | exact zd_length | rfl), sgL_len (by first | assumption | exact shaP_len _ | exact sgn_len _ _ _ _ | exact macP_len _ _ | exact zd_length | rfl) (by first | assumption | exact shaP_len _ | exact sgn_len _ _ _ _ | exact macP_len _ _ | exact zd_length | rfl) (by first | assumption | exact shaP_len _ | exact sgn_len _ _ _ _ | exact macP_len _ _ | exact zd_length | rfl)]))) (by first | exact sgL_one _ _ _ _ | exact hd_one _ _ _ | exact dg_one _) (by first | exact sgL_len (by first | assumption | exact shaP_len _ | exact sgn_len _ _ _ _ | exact macP_len _ _ | exact zd_length | rfl) (by first | assumption | exact shaP_len _ | exact sgn_len _ _ _ _ | exact macP_len _ _ | exact zd_length | rfl) (by first | assumption | exact shaP_len _ | exact sgn_len _ _ _ _ | exact macP_len _ _ | exact zd_length | rfl) | (rw [sgL_len (by first | assumption | exact shaP_len _ | exact sgn_len _ _ _ _ | exact macP_len _ _ | exact zd_length | rfl) (by first | assumption | exact shaP_len _ | exact sgn_len _ _ _ _ | exact macP_len _ _ | exact zd_length | rfl) (by first | assumption | exact shaP_len _ | exact sgn_len _ _ _ _ | exact macP_len _ _ | exact zd_length | rfl), sgL_len (by first | assumption | exact shaP_len _ | exact sgn_len _ _ _ _ | exact macP_len _ _ | exact zd_length | rfl) (by first | assumption | exact shaP_len _ | exact sgn_len _ _ _ _ | exact macP_len _ _ | exact zd_length | rfl) (by first | assumption | exact shaP_len _ | exact sgn_len _ _ _ _ | exact macP_len _ _ | exact zd_length | rfl)])) ?_
    refine L_v rfl rfl rfl (V_assign rfl rfl) ?_
    refine L_nil ?_
    change J _ _ _ _
    refine J_seq ?_
    refine J_seq ?_
    refine J_region ?_
    refine L_v rfl rfl rfl (V_move rfl rfl) ?_
    refine L_v rfl rfl rfl (V_neq rfl rfl rfl (by first | exact decide_eq_true (by omega) | exact decide_eq_false (by omega) | rfl)) ?_
    refine L_nil ?_
    change J _ _ _ _
    refine J_false rfl ?_
    refine J_skip ?_
    change J _ _ _ _
    refine J_seq ?_
    refine J_seq ?_
    refine J_region ?_
    refine L_v rfl rfl rfl (V_move rfl rfl) ?_
    refine L_v rfl rfl rfl (V_loadW 1 rfl rfl rfl Tryd.underlying36 rfl (szd sz36z (by first | exact sgL_len (by first | assumption | exact shaP_len _ | exact sgn_len _ _ _ _ | exact macP_len _ _ | exact zd_length | rfl) (by first | assumption | exact shaP_len _ | exact sgn_len _ _ _ _ | exact macP_len _ _ | exact zd_length | rfl) (by first | assumption | exact shaP_len _ | exact sgn_len _ _ _ _ | exact macP_len _ _ | exact zd_length | rfl) | (rw [sgL_len (by first | assumption | exact shaP_len _ | exact sgn_len _ _ _ _ | exact macP_len _ _ | exact zd_length | rfl) (by first | assumption | exact shaP_len _ | exact sgn_len _ _ _ _ | exact macP_len _ _ | exact zd_length | rfl) (by first | assumption | exact shaP_len _ | exact sgn_len _ _ _ _ | exact macP_len _ _ | exact zd_length | rfl), sgL_len (by first | assumption | exact shaP_len _ | exact sgn_len _ _ _ _ | exact macP_len _ _ | exact zd_length | rfl) (by first | assumption | exact shaP_len _ | exact sgn_len _ _ _ _ | exact macP_len _ _ | exact zd_length | rfl) (by first | assumption | exact shaP_len _ | exact sgn_len _ _ _ _ | exact macP_len _ _ | exact zd_length | rfl)])))) ?_
    refine L_callV rfl rfl rfl rfl rfl rfl tx17z (fun w1 hw => chk_b w1 hr hp (sgn_len _ _ _ _) hrb hpb (sgn_byt _ _ _ _) (TabK.later hw (by simp) hK) (chk_own hk he)) ?_
    refine L_v rfl rfl rfl (V_neq rfl rfl rfl (by first | exact decide_eq_true (by omega) | exact decide_eq_false (by omega) | rfl)) ?_
    refine L_v rfl rfl rfl (V_move rfl rfl) ?_
    refine L_wv rfl rfl rfl rfl rfl rfl (V_move rfl rfl) ?_
    refine L_wv rfl rfl rfl rfl rfl rfl (V_lss rfl rfl rfl (by first | exact decide_eq_true (by omega) | exact decide_eq_false (by omega) | rfl)) ?_
    first | refine L_v rfl rfl rfl (V_pickT rfl rfl rfl) ?_ | refine L_v rfl rfl rfl (V_pickF rfl rfl rfl) ?_
    refine L_v rfl rfl rfl (V_move rfl rfl) ?_
    refine L_wv rfl rfl rfl rfl rfl rfl (V_move rfl rfl) ?_
    refine L_wv rfl rfl rfl rfl rfl rfl (V_geq rfl rfl rfl (by first | exact decide_eq_true (by omega) | exact decide_eq_false (by omega) | rfl)) ?_
    first | refine L_v rfl rfl rfl (V_pickT rfl rfl rfl) ?_ | refine L_v rfl rfl rfl (V_pickF rfl rfl rfl) ?_
    refine L_v rfl rfl rfl (V_move rfl rfl) ?_
    refine L_wv rfl rfl rfl rfl rfl rfl (V_move rfl rfl) ?_
    refine L_wv rfl rfl rfl rfl rfl rfl (V_eql rfl rfl rfl (by first | exact decide_eq_true (by omega) | exact decide_eq_false (by omega) | rfl)) ?_
    first | refine L_v rfl rfl rfl (V_pickT rfl rfl rfl) ?_ | refine L_v rfl rfl rfl (V_pickF rfl rfl rfl) ?_
    refine L_nil ?_
    change J _ _ _ _
    refine J_false rfl ?_
    refine J_skip ?_
    change J _ _ _ _
    refine J_seq ?_
    refine J_region ?_
    refine L_v rfl rfl rfl (V_loadW 1 rfl rfl rfl Tryd.underlying36 rfl (szd sz36z (by first | exact sgL_len (by first | assumption | exact shaP_len _ | exact sgn_len _ _ _ _ | exact macP_len _ _ | exact zd_length | rfl) (by first | assumption | exact shaP_len _ | exact sgn_len _ _ _ _ | exact macP_len _ _ | exact zd_length | rfl) (by first | assumption | exact shaP_len _ | exact sgn_len _ _ _ _ | exact macP_len _ _ | exact zd_length | rfl) | (rw [sgL_len (by first | assumption | exact shaP_len _ | exact sgn_len _ _ _ _ | exact macP_len _ _ | exact zd_length | rfl) (by first | assumption | exact shaP_len _ | exact sgn_len _ _ _ _ | exact macP_len _ _ | exact zd_length | rfl) (by first | assumption | exact shaP_len _ | exact sgn_len _ _ _ _ | exact macP_len _ _ | exact zd_length | rfl), sgL_len (by first | assumption | exact shaP_len _ | exact sgn_len _ _ _ _ | exact macP_len _ _ | exact zd_length | rfl) (by first | assumption | exact shaP_len _ | exact sgn_len _ _ _ _ | exact macP_len _ _ | exact zd_length | rfl) (by first | assumption | exact shaP_len _ | exact sgn_len _ _ _ _ | exact macP_len _ _ | exact zd_length | rfl)])))) ?_
    refine L_alloc rfl rfl rfl rfl z36z (fun b2 => ?_)
    refine L_storeW 2 rfl rfl rfl rfl rfl rfl (szd sz36z (by first | exact sgL_len (by first | assumption | exact shaP_len _ | exact sgn_len _ _ _ _ | exact macP_len _ _ | exact zd_length | rfl) (by first | assumption | exact shaP_len _ | exact sgn_len _ _ _ _ | exact macP_len _ _ | exact zd_length | rfl) (by first | assumption | exact shaP_len _ | exact sgn_len _ _ _ _ | exact macP_len _ _ | exact zd_length | rfl) | (rw [sgL_len (by first | assumption | exact shaP_len _ | exact sgn_len _ _ _ _ | exact macP_len _ _ | exact zd_length | rfl) (by first | assumption | exact shaP_len _ | exact sgn_len _ _ _ _ | exact macP_len _ _ | exact zd_length | rfl) (by first | assumption | exact shaP_len _ | exact sgn_len _ _ _ _ | exact macP_len _ _ | exact zd_length | rfl), sgL_len (by first | assumption | exact shaP_len _ | exact sgn_len _ _ _ _ | exact macP_len _ _ | exact zd_length | rfl) (by first | assumption | exact shaP_len _ | exact sgn_len _ _ _ _ | exact macP_len _ _ | exact zd_length | rfl) (by first | assumption | exact shaP_len _ | exact sgn_len _ _ _ _ | exact macP_len _ _ | exact zd_length | rfl)]))) (by first | exact sgL_one _ _ _ _ | exact hd_one _ _ _ | exact dg_one _) (by first | exact sgL_len (by first | assumption | exact shaP_len _ | exact sgn_len _ _ _ _ | exact macP_len _ _ | exact zd_length | rfl) (by first | assumption | exact shaP_len _ | exact sgn_len _ _ _ _ | exact macP_len _ _ | exact zd_length | rfl) (by first | assumption | exact shaP_len _ | exact sgn_len _ _ _ _ | exact macP_len _ _ | exact zd_length | rfl) | (rw [sgL_len (by first | assumption | exact shaP_len _ | exact sgn_len _ _ _ _ | exact macP_len _ _ | exact zd_length | rfl) (by first | assumption | exact shaP_len _ | exact sgn_len _ _ _ _ | exact macP_len _ _ | exact zd_length | rfl) (by first | assumption | exact shaP_len _ | exact sgn_len _ _ _ _ | exact macP_len _ _ | exact zd_length | rfl), sgL_len (by first | assumption | exact shaP_len _ | exact sgn_len _ _ _ _ | exact macP_len _ _ | exact zd_length | rfl) (by first | assumption | exact shaP_len _ | exact sgn_len _ _ _ _ | exact macP_len _ _ | exact zd_length | rfl) (by first | assumption | exact shaP_len _ | exact sgn_len _ _ _ _ | exact macP_len _ _ | exact zd_length | rfl)])) ?_
    refine L_nil ?_
    change J _ _ _ _
    refine J_seq ?_
    refine J_seq ?_
    refine J_region ?_
    refine L_v rfl rfl rfl (V_move rfl rfl) ?_
    refine L_v rfl rfl rfl (V_quo rfl rfl rfl (by omega) (q64 (by omega) (by omega) (by omega))) ?_
    refine L_nil ?_
    change J _ _ _ _
    refine J_block ?_
    refine J_seq ?_
    refine J_region ?_
    refine L_v rfl rfl rfl (V_eql rfl rfl rfl (by first | exact decide_eq_true (by omega) | exact decide_eq_false (by omega) | rfl)) ?_
    refine L_v rfl rfl rfl (V_assign rfl rfl) ?_
    refine L_nil ?_
    change J _ _ _ _
    refine J_false rfl ?_
    refine J_seq ?_
    refine J_region ?_
    refine L_v rfl rfl rfl (V_eql rfl rfl rfl (by first | exact decide_eq_true (by omega) | exact decide_eq_false (by omega) | rfl)) ?_
    refine L_v rfl rfl rfl (V_assign rfl rfl) ?_
    refine L_nil ?_
    change J _ _ _ _
    refine J_true rfl ?_
    refine J_region ?_
    refine L_v rfl rfl rfl (V_move rfl rfl) ?_
    refine L_v rfl rfl rfl (V_rem (r := (k : Int)) rfl rfl rfl (by omega) (by rw [r64 (by omega)]; exact hkk)) ?_
    refine L_v rfl rfl rfl (V_move rfl rfl) ?_
    refine L_v rfl rfl rfl (V_rem (r := (k : Int)) rfl rfl rfl (by omega) (by rw [r64 (by omega)]; exact hkk)) ?_
    refine L_v rfl rfl rfl (V_fieldAddr rfl rfl Tryd.underlying36 rfl sz25z rfl) ?_
    refine L_v rfl rfl rfl (V_fieldAddr rfl rfl Tryd.underlying25 rfl sz23z rfl) ?_
    refine L_v rfl rfl rfl (V_indexArr (off' := 1 + k) rfl rfl rfl Tryd.underlying23 sz5z (by omega) (by omega) (show 0 + 0 + 1 + ((k : Nat) : Int).toNat * 1 = 1 + k by omega)) ?_
    refine L_v rfl rfl rfl (V_load1 2 rfl rfl rfl Tryd.underlying5 rfl (sg_getR hr hp (by omega))) ?_
    refine L_v rfl rfl rfl (V_move rfl rfl) ?_
    refine L_v rfl rfl rfl (V_xor rfl rfl rfl rfl) ?_
    refine L_v rfl rfl rfl (V_fieldAddr rfl rfl Tryd.underlying36 rfl sz25z rfl) ?_
    refine L_v rfl rfl rfl (V_fieldAddr rfl rfl Tryd.underlying25 rfl sz23z rfl) ?_
    refine L_v rfl rfl rfl (V_indexArr (off' := 1 + k) rfl rfl rfl Tryd.underlying23 sz5z (by omega) (by omega) (show 0 + 0 + 1 + ((k : Nat) : Int).toNat * 1 = 1 + k by omega)) ?_
    refine L_store1 2 rfl rfl rfl rfl rfl rfl rfl sz5z (by rw [sgL_len hr hp (sgn_len _ _ _ _)]; omega) (sg_setR hr hp hk32 _) ?_
    refine L_nil ?_
    change J _ _ _ _
    refine J_seq ?_
    refine J_region ?_
    refine L_v rfl rfl rfl (V_fieldAddr rfl rfl Tryd.underlying36 rfl sz25z rfl) ?_
    refine L_v rfl rfl rfl (V_loadP 2 (vs := hdL er (r.set k (bits2 .xor .u8 (r.getD k 0) by_)) p) rfl rfl rfl Tryd.underlying25 rfl (szd sz25z (by first | exact hdL_len (by first | assumption | exact shaP_len _ | exact sgn_len _ _ _ _ | exact macP_len _ _ | exact zd_length | rfl) (by first | assumption | exact shaP_len _ | exact sgn_len _ _ _ _ | exact macP_len _ _ | exact zd_length | rfl) | (rw [hdL_len (by first | assumption | exact shaP_len _ | exact sgn_len _ _ _ _ | exact macP_len _ _ | exact zd_length | rfl) (by first | assumption | exact shaP_len _ | exact sgn_len _ _ _ _ | exact macP_len _ _ | exact zd_length | rfl), hdL_len (by first | assumption | exact shaP_len _ | exact sgn_len _ _ _ _ | exact macP_len _ _ | exact zd_length | rfl) (by first | assumption | exact shaP_len _ | exact sgn_len _ _ _ _ | exact macP_len _ _ | exact zd_length | rfl)]))) (sg_hd hx hp)) ?_
    refine L_callB rfl rfl rfl rfl rfl rfl tx9z (fun w1 hw => hbytes_ok er (r.set k (bits2 .xor .u8 (r.getD k 0) by_)) p w1 hx hp hq0 hq1) (fun g1 r1 c1 hl1 hc1 hr1 => ?_)
    refine L_v rfl rfl rfl (V_move rfl rfl) ?_
    refine L_v rfl rfl rfl (V_extract rfl rfl rfl) ?_
    refine L_v rfl rfl rfl (V_extract rfl rfl rfl) ?_
    refine L_v rfl rfl rfl (V_assign rfl rfl) ?_
    refine L_v rfl rfl rfl (V_assign rfl rfl) ?_
    refine L_nil ?_
    change J _ _ _ _
    refine J_seq ?_
    refine J_region ?_
    refine L_v rfl rfl rfl (V_move rfl rfl) ?_
    refine L_v rfl rfl rfl (V_loadW 2 rfl rfl rfl Tryd.underlying36 rfl (szd sz36z (by first | exact sgL_len (by first | assumption | exact shaP_len _ | exact sgn_len _ _ _ _ | exact macP_len _ _ | exact zd_length | rfl) (by first | assumption | exact shaP_len _ | exact sgn_len _ _ _ _ | exact macP_len _ _ | exact zd_length | rfl) (by first | assumption | exact shaP_len _ | exact sgn_len _ _ _ _ | exact macP_len _ _ | exact zd_length | rfl) | (rw [sgL_len (by first | assumption | exact shaP_len _ | exact sgn_len _ _ _ _ | exact macP_len _ _ | exact zd_length | rfl) (by first | assumption | exact shaP_len _ | exact sgn_len _ _ _ _ | exact macP_len _ _ | exact zd_length | rfl) (by first | assumption | exact shaP_len _ | exact sgn_len _ _ _ _ | exact macP_len _ _ | exact zd_length | rfl), sgL_len (by first | assumption | exact shaP_len _ | exact sgn_len _ _ _ _ | exact macP_len _ _ | exact zd_length | rfl) (by first | assumption | exact shaP_len _ | exact sgn_len _ _ _ _ | exact macP_len _ _ | exact zd_length | rfl) (by first | assumption | exact shaP_len _ | exact sgn_len _ _ _ _ | exact macP_len _ _ | exact zd_length | rfl)])))) ?_
    refine L_callV rfl rfl rfl rfl rfl rfl tx17z (fun w1 hw => chk_w s er (r.set k (bits2 .xor .u8 (r.getD k 0) by_)) p (sgn s er r p) w1 hx hp (sgn_len _ _ _ _) bx hpb (sgn_byt _ _ _ _) (TabK.later hw (by simp) hK)) ?_
    refine L_v rfl rfl rfl (V_assign rfl rfl) ?_
    refine L_nil ?_
    change J _ _ _ _
    refine J_seq ?_
    refine J_regionO (.one 0 (.pure 1 (.one 2 (.pure 3 (.pure 4 (.pure 5 (.pure 6 (.pure 7 (.pure 8 (.pure 9 (.pure 10 (.pure 11 (.pure 13 (.pure 15 (.pure 16 (.one 12 (.one 14 (.pure 17 (.pure 18 (.pure 19 (.pure 20 (.nil)))))))))))))))))))))) ([(b2, row 36 (sgL er (r.set k (bits2 .xor .u8 (r.getD k 0) by_)) p (sgn s er r p)))]) _ (Pk.of_sub (List.Sublist.cons _ (List.Sublist.cons _ (List.Sublist.cons_cons _ (List.nil_sublist _))))) (fun f hf => hf) rfl rfl (by kernel_rfl) ?_
    refine LO_callV rfl rfl rfl rfl rfl rfl rfl rfl tx16z (fun w1 hw => signs_w w1 (TabK.later hw (by simp) hK)) (Pk.of_sub (List.Sublist.cons _ (List.Sublist.cons _ (List.Sublist.cons_cons _ (List.nil_sublist _))))) (fun f hf => hf) ?_
    refine LO_v rfl rfl rfl rfl (V_move rfl rfl) ?_
    refine LO_wcallV rfl rfl rfl rfl rfl rfl rfl rfl rfl rfl rfl tx12z (fun w1 _ => lays_w w1) (Pk.of_sub (List.Sublist.cons _ (List.Sublist.cons _ (List.Sublist.cons_cons _ (List.nil_sublist _))))) (fun f hf => hf) ?_
    first | refine LO_v rfl rfl rfl rfl (V_pickT rfl rfl rfl) ?_ | refine LO_v rfl rfl rfl rfl (V_pickF rfl rfl rfl) ?_
    refine LO_v rfl rfl rfl rfl (V_move rfl rfl) ?_
    refine LO_wv rfl rfl rfl rfl rfl rfl rfl (V_move rfl rfl) ?_
    refine LO_wv rfl rfl rfl rfl rfl rfl rfl (V_eql rfl rfl rfl (by first | exact decide_eq_true (by omega) | exact decide_eq_false (by omega) | rfl)) ?_
    first | refine LO_v rfl rfl rfl rfl (V_pickT rfl rfl rfl) ?_ | refine LO_v rfl rfl rfl rfl (V_pickF rfl rfl rfl) ?_
    refine LO_v rfl rfl rfl rfl (V_move rfl rfl) ?_
    refine LO_wv rfl rfl rfl rfl rfl rfl rfl (V_move rfl rfl) ?_
    refine LO_wv rfl rfl rfl rfl rfl rfl rfl (V_eql rfl rfl rfl (by first | exact decide_eq_true (by omega) | exact decide_eq_false (by omega) | rfl)) ?_
    refine LO_wv rfl rfl rfl rfl rfl rfl rfl (V_move rfl rfl) ?_
    refine LO_wv rfl rfl rfl rfl rfl rfl rfl (V_move rfl rfl) ?_
    refine LO_wv rfl rfl rfl rfl rfl rfl rfl (V_fieldAddr rfl rfl Tryd.underlying36 rfl sz23z rfl) ?_
    refine LO_wv rfl rfl rfl rfl rfl rfl rfl (V_loadP 0 (vs := dg (sgn s er r p)) rfl rfl rfl Tryd.underlying23 rfl (szd sz23z (by first | (rw [dg_length]; exact (by first | assumption | exact shaP_len _ | exact sgn_len _ _ _ _ | exact macP_len _ _ | exact zd_length | rfl)) | exact (rfl : (dg zd).length = (dg zd).length) | (rw [dg_length, dg_length, show zd.length = 32 from rfl]; exact Eq.symm (by first | assumption | exact shaP_len _ | exact sgn_len _ _ _ _ | exact macP_len _ _ | exact zd_length | rfl)))) (sg_sig hx hp)) ?_
    refine LO_sw rfl rfl rfl rfl rfl rfl (S_toBytesC rfl rfl rfl rfl Tryd.underlying9 Tryd.underlying26 Tryd.underlying5 (fun b4 c4 r4 z4 hc4 hr4 => ⟨(Pk.app (Pk.of_sub (List.Sublist.cons _ (List.Sublist.cons _ (List.Sublist.cons_cons _ (List.nil_sublist _))))) _), fun f hf => hf, ?_⟩)) 
    refine LO_wcallV rfl rfl rfl rfl rfl rfl rfl rfl rfl rfl rfl tx19z (fun w1 hw => mac_w (bs s) (some ⟨b4, 0, none⟩) s.size c4 (lay er (r.set k (bits2 .xor .u8 (r.getD k 0) by_)) p) (some ⟨g1, 0, none⟩) (0 + (grp er).length + 32 + 32) c1 w1 (SlB.of_own hw (i := 4) rfl (bs_length _) c4) (bs_byt s) (SlB.of_own hw (i := 3) (l := lay er (r.set k (bits2 .xor .u8 (r.getD k 0) by_)) p) rfl hl1 c1) (lay_byt (by omega) hq1 bx hpb) hc4 hc1 (TabK.later hw (by simp) hK) (by rw [bs_length]; omega) (by rw [lay_len hx hp]; omega)) (Pk.app (Pk.of_sub (List.Sublist.cons _ (List.Sublist.cons _ (List.Sublist.cons_cons _ (List.nil_sublist _))))) _) (fun f hf => hf) ?_
    refine LO_wv rfl rfl rfl rfl rfl rfl rfl (V_eqD rfl rfl rfl egD9 Tryd.underlying23 Tryd.underlying5 sz5z (by first | assumption | exact shaP_len _ | exact sgn_len _ _ _ _ | exact macP_len _ _ | exact zd_length | rfl) (by first | assumption | exact shaP_len _ | exact sgn_len _ _ _ _ | exact macP_len _ _ | exact zd_length | rfl) rfl) ?_
    refine LO_wv rfl rfl rfl rfl rfl rfl rfl (V_eqB rfl rfl rfl Tryd.underlying4 (chk_two hk he)) ?_
    first | refine LO_v rfl rfl rfl rfl (V_pickT rfl rfl rfl) ?_ | refine LO_v rfl rfl rfl rfl (V_pickF rfl rfl rfl) ?_
    refine LO_v rfl rfl rfl rfl (V_assign rfl rfl) ?_
    refine LO_nil ?_
    change J _ _ _ _
    refine J_ret ?_
    change Kret _ _ _ Exit.ret _
    refine ret1 rfl rfl (RV_t rfl) ?_
    exact fun w' h => ⟨rfl, h.fr⟩

set_option maxHeartbeats 1000000 in
theorem HeadBack_q (s : ByteArray) (er : Int) (r p : List Int) (at_ by_ : Int) (w : World) (hr : r.length = 32) (hp : p.length = 32) (hrb : Byt r) (hpb : Byt p) (hk : okK s = true) (he : okE er = true) (hat : 64 ≤ at_ ∧ at_ < 96) (hby0 : by_ ≠ 0) (hK : TabK KT 0 w)  :
    Calls Tryd.prog 6 #[.string s, .agg (hdL er r p).toArray, .int .i64 at_, .int .u8 by_] w fun e w' => e = .returned (.bool true) ∧ Fr [] w w' := by
  have h01 : 1 ≤ er ∧ er ≤ 200 := of_decide_eq_true he
  obtain ⟨h0, h1⟩ := h01
  have hq0 := h0
  have hq1 := h1
  have hgl := grp_len er
  have hks : 1 ≤ s.size ∧ s.size ≤ 64 := of_decide_eq_true hk
  obtain ⟨k, hkk⟩ : ∃ k : Nat, at_ % 32 = k := ⟨(at_ % 32).toNat, by omega⟩
  have hk32 : k < 32 := by omega
  have hx : (p.set k (bits2 .xor .u8 (p.getD k 0) by_)).length = 32 := by rw [List.length_set]; exact hp
  have bx : Byt (p.set k (bits2 .xor .u8 (p.getD k 0) by_)) := Byt.set hpb _ (bits8 _ _ _)
  refine calls_of (args := [.string s, .agg (hdL er r p).toArray, .int .i64 at_, .int .u8 by_]) ([]) ([]) ([]) Tryd.func6 rfl rfl (okW0 _ _ _ _) ?_
  refine J_seq ?_
  refine J_region ?_
  refine L_box rfl rfl rfl rfl rfl (fun b0 => ?_)
  refine L_v rfl rfl rfl (V_assign rfl rfl) ?_
  refine L_nil ?_
  change J _ _ _ _
  refine J_seq ?_
  refine J_seq ?_
  refine J_region ?_
  refine L_v rfl rfl rfl (V_move rfl rfl) ?_
  refine L_v rfl rfl rfl (V_lenS rfl rfl Tryd.underlying9 rfl) ?_
  refine L_v rfl rfl rfl (V_gtr rfl rfl rfl (by first | exact decide_eq_true (by omega) | exact decide_eq_false (by omega) | rfl)) ?_
  refine L_nil ?_
  change J _ _ _ _
  refine J_cond rfl (fun h1 => ?_) (fun h1 => ?_)
  ·
    first | (have h1 := of_decide_eq_true h1) | (have h1 := of_decide_eq_false h1) | skip
    refine J_seq ?_
    refine J_region ?_
    refine L_v rfl rfl rfl (V_assign rfl rfl) ?_
    refine L_nil ?_
    change J _ _ _ _
    refine J_ret ?_
    change Kret _ _ _ Exit.ret _
    refine ret1 rfl rfl (RV_t rfl) ?_
    exact fun w' h => ⟨rfl, h.fr⟩
  ·
    first | (have h1 := of_decide_eq_true h1) | (have h1 := of_decide_eq_false h1) | skip
    refine J_skip ?_
    change J _ _ _ _
    refine J_seq ?_
    refine J_region ?_
    refine L_v rfl rfl rfl (V_move rfl rfl) ?_
    refine L_v rfl rfl rfl (V_loadW 0 rfl rfl rfl Tryd.underlying25 rfl (szd sz25z (by first | exact hdL_len (by first | assumption | exact shaP_len _ | exact sgn_len _ _ _ _ | exact macP_len _ _ | exact zd_length | rfl) (by first | assumption | exact shaP_len _ | exact sgn_len _ _ _ _ | exact macP_len _ _ | exact zd_length | rfl) | (rw [hdL_len (by first | assumption | exact shaP_len _ | exact sgn_len _ _ _ _ | exact macP_len _ _ | exact zd_length | rfl) (by first | assumption | exact shaP_len _ | exact sgn_len _ _ _ _ | exact macP_len _ _ | exact zd_length | rfl), hdL_len (by first | assumption | exact shaP_len _ | exact sgn_len _ _ _ _ | exact macP_len _ _ | exact zd_length | rfl) (by first | assumption | exact shaP_len _ | exact sgn_len _ _ _ _ | exact macP_len _ _ | exact zd_length | rfl)])))) ?_
    refine L_callV rfl rfl rfl rfl rfl rfl tx14z (fun w1 hw => sign_ok s er r p w1 hr hp hrb hpb hk he (TabK.later hw (by simp) hK)) ?_
    refine L_v rfl rfl rfl (V_move rfl rfl) ?_
    refine L_v rfl rfl rfl (V_extract rfl rfl rfl) ?_
    refine L_v rfl rfl rfl (V_extract rfl rfl rfl) ?_
    refine L_alloc rfl rfl rfl rfl z36z (fun b1 => ?_)
    refine L_storeW 1 rfl rfl rfl rfl rfl rfl (szd sz36z (by first | exact sgL_len (by first | assumption | exact shaP_len _ | exact sgn_len _ _ _ _ | exact macP_len _ _ | exact zd_length | rfl) (by first | assumption | exact shaP_len _ | exact sgn_len _ _ _ _ | exact macP_len _ _ | exact zd_length | rfl) (by first | assumption | exact shaP_len _ | exact sgn_len _ _ _ _ | exact macP_len _ _ | exact zd_length | rfl) | (rw [sgL_len (by first | assumption | exact shaP_len _ | exact sgn_len _ _ _ _ | exact macP_len _ _ | exact zd_length | rfl) (by first | assumption | exact shaP_len _ | exact sgn_len _ _ _ _ | exact macP_len _ _ | exact zd_length | rfl) (by first | assumption | exact shaP_len _ | exact sgn_len _ _ _ _ | exact macP_len _ _ | exact zd_length | rfl), sgL_len (by first | assumption | exact shaP_len _ | exact sgn_len _ _ _ _ | exact macP_len _ _ | exact zd_length | rfl) (by first | assumption | exact shaP_len _ | exact sgn_len _ _ _ _ | exact macP_len _ _ | exact zd_length | rfl) (by first | assumption | exact shaP_len _ | exact sgn_len _ _ _ _ | exact macP_len _ _ | exact zd_length | rfl)]))) (by first | exact sgL_one _ _ _ _ | exact hd_one _ _ _ | exact dg_one _) (by first | exact sgL_len (by first | assumption | exact shaP_len _ | exact sgn_len _ _ _ _ | exact macP_len _ _ | exact zd_length | rfl) (by first | assumption | exact shaP_len _ | exact sgn_len _ _ _ _ | exact macP_len _ _ | exact zd_length | rfl) (by first | assumption | exact shaP_len _ | exact sgn_len _ _ _ _ | exact macP_len _ _ | exact zd_length | rfl) | (rw [sgL_len (by first | assumption | exact shaP_len _ | exact sgn_len _ _ _ _ | exact macP_len _ _ | exact zd_length | rfl) (by first | assumption | exact shaP_len _ | exact sgn_len _ _ _ _ | exact macP_len _ _ | exact zd_length | rfl) (by first | assumption | exact shaP_len _ | exact sgn_len _ _ _ _ | exact macP_len _ _ | exact zd_length | rfl), sgL_len (by first | assumption | exact shaP_len _ | exact sgn_len _ _ _ _ | exact macP_len _ _ | exact zd_length | rfl) (by first | assumption | exact shaP_len _ | exact sgn_len _ _ _ _ | exact macP_len _ _ | exact zd_length | rfl) (by first | assumption | exact shaP_len _ | exact sgn_len _ _ _ _ | exact macP_len _ _ | exact zd_length | rfl)])) ?_
    refine L_v rfl rfl rfl (V_assign rfl rfl) ?_
    refine L_nil ?_
    change J _ _ _ _
    refine J_seq ?_
    refine J_seq ?_
    refine J_region ?_
    refine L_v rfl rfl rfl (V_move rfl rfl) ?_
    refine L_v rfl rfl rfl (V_neq rfl rfl rfl (by first | exact decide_eq_true (by omega) | exact decide_eq_false (by omega) | rfl)) ?_
    refine L_nil ?_
    change J _ _ _ _
    refine J_false rfl ?_
    refine J_skip ?_
    change J _ _ _ _
    refine J_seq ?_
    refine J_seq ?_
    refine J_region ?_
    refine L_v rfl rfl rfl (V_move rfl rfl) ?_
    refine L_v rfl rfl rfl (V_loadW 1 rfl rfl rfl Tryd.underlying36 rfl (szd sz36z (by first | exact sgL_len (by first | assumption | exact shaP_len _ | exact sgn_len _ _ _ _ | exact macP_len _ _ | exact zd_length | rfl) (by first | assumption | exact shaP_len _ | exact sgn_len _ _ _ _ | exact macP_len _ _ | exact zd_length | rfl) (by first | assumption | exact shaP_len _ | exact sgn_len _ _ _ _ | exact macP_len _ _ | exact zd_length | rfl) | (rw [sgL_len (by first | assumption | exact shaP_len _ | exact sgn_len _ _ _ _ | exact macP_len _ _ | exact zd_length | rfl) (by first | assumption | exact shaP_len _ | exact sgn_len _ _ _ _ | exact macP_len _ _ | exact zd_length | rfl) (by first | assumption | exact shaP_len _ | exact sgn_len _ _ _ _ | exact macP_len _ _ | exact zd_length | rfl), sgL_len (by first | assumption | exact shaP_len _ | exact sgn_len _ _ _ _ | exact macP_len _ _ | exact zd_length | rfl) (by first | assumption | exact shaP_len _ | exact sgn_len _ _ _ _ | exact macP_len _ _ | exact zd_length | rfl) (by first | assumption | exact shaP_len _ | exact sgn_len _ _ _ _ | exact macP_len _ _ | exact zd_length | rfl)])))) ?_
    refine L_callV rfl rfl rfl rfl rfl rfl tx17z (fun w1 hw => chk_b w1 hr hp (sgn_len _ _ _ _) hrb hpb (sgn_byt _ _ _ _) (TabK.later hw (by simp) hK) (chk_own hk he)) ?_
    refine L_v rfl rfl rfl (V_neq rfl rfl rfl (by first | exact decide_eq_true (by omega) | exact decide_eq_false (by omega) | rfl)) ?_
    refine L_v rfl rfl rfl (V_move rfl rfl) ?_
    refine L_wv rfl rfl rfl rfl rfl rfl (V_move rfl rfl) ?_
    refine L_wv rfl rfl rfl rfl rfl rfl (V_lss rfl rfl rfl (by first | exact decide_eq_true (by omega) | exact decide_eq_false (by omega) | rfl)) ?_
    first | refine L_v rfl rfl rfl (V_pickT rfl rfl rfl) ?_ | refine L_v rfl rfl rfl (V_pickF rfl rfl rfl) ?_
    refine L_v rfl rfl rfl (V_move rfl rfl) ?_
    refine L_wv rfl rfl rfl rfl rfl rfl (V_move rfl rfl) ?_
    refine L_wv rfl rfl rfl rfl rfl rfl (V_geq rfl rfl rfl (by first | exact decide_eq_true (by omega) | exact decide_eq_false (by omega) | rfl)) ?_
    first | refine L_v rfl rfl rfl (V_pickT rfl rfl rfl) ?_ | refine L_v rfl rfl rfl (V_pickF rfl rfl rfl) ?_
    refine L_v rfl rfl rfl (V_move rfl rfl) ?_
    refine L_wv rfl rfl rfl rfl rfl rfl (V_move rfl rfl) ?_
    refine L_wv rfl rfl rfl rfl rfl rfl (V_eql rfl rfl rfl (by first | exact decide_eq_true (by omega) | exact decide_eq_false (by omega) | rfl)) ?_
    first | refine L_v rfl rfl rfl (V_pickT rfl rfl rfl) ?_ | refine L_v rfl rfl rfl (V_pickF rfl rfl rfl) ?_
    refine L_nil ?_
    change J _ _ _ _
    refine J_false rfl ?_
    refine J_skip ?_
    change J _ _ _ _
    refine J_seq ?_
    refine J_region ?_
    refine L_v rfl rfl rfl (V_loadW 1 rfl rfl rfl Tryd.underlying36 rfl (szd sz36z (by first | exact sgL_len (by first | assumption | exact shaP_len _ | exact sgn_len _ _ _ _ | exact macP_len _ _ | exact zd_length | rfl) (by first | assumption | exact shaP_len _ | exact sgn_len _ _ _ _ | exact macP_len _ _ | exact zd_length | rfl) (by first | assumption | exact shaP_len _ | exact sgn_len _ _ _ _ | exact macP_len _ _ | exact zd_length | rfl) | (rw [sgL_len (by first | assumption | exact shaP_len _ | exact sgn_len _ _ _ _ | exact macP_len _ _ | exact zd_length | rfl) (by first | assumption | exact shaP_len _ | exact sgn_len _ _ _ _ | exact macP_len _ _ | exact zd_length | rfl) (by first | assumption | exact shaP_len _ | exact sgn_len _ _ _ _ | exact macP_len _ _ | exact zd_length | rfl), sgL_len (by first | assumption | exact shaP_len _ | exact sgn_len _ _ _ _ | exact macP_len _ _ | exact zd_length | rfl) (by first | assumption | exact shaP_len _ | exact sgn_len _ _ _ _ | exact macP_len _ _ | exact zd_length | rfl) (by first | assumption | exact shaP_len _ | exact sgn_len _ _ _ _ | exact macP_len _ _ | exact zd_length | rfl)])))) ?_
    refine L_alloc rfl rfl rfl rfl z36z (fun b2 => ?_)
    refine L_storeW 2 rfl rfl rfl rfl rfl rfl (szd sz36z (by first | exact sgL_len (by first | assumption | exact shaP_len _ | exact sgn_len _ _ _ _ | exact macP_len _ _ | exact zd_length | rfl) (by first | assumption | exact shaP_len _ | exact sgn_len _ _ _ _ | exact macP_len _ _ | exact zd_length | rfl) (by first | assumption | exact shaP_len _ | exact sgn_len _ _ _ _ | exact macP_len _ _ | exact zd_length | rfl) | (rw [sgL_len (by first | assumption | exact shaP_len _ | exact sgn_len _ _ _ _ | exact macP_len _ _ | exact zd_length | rfl) (by first | assumption | exact shaP_len _ | exact sgn_len _ _ _ _ | exact macP_len _ _ | exact zd_length | rfl) (by first | assumption | exact shaP_len _ | exact sgn_len _ _ _ _ | exact macP_len _ _ | exact zd_length | rfl), sgL_len (by first | assumption | exact shaP_len _ | exact sgn_len _ _ _ _ | exact macP_len _ _ | exact zd_length | rfl) (by first | assumption | exact shaP_len _ | exact sgn_len _ _ _ _ | exact macP_len _ _ | exact zd_length | rfl) (by first | assumption | exact shaP_len _ | exact sgn_len _ _ _ _ | exact macP_len _ _ | exact zd_length | rfl)]))) (by first | exact sgL_one _ _ _ _ | exact hd_one _ _ _ | exact dg_one _) (by first | exact sgL_len (by first | assumption | exact shaP_len _ | exact sgn_len _ _ _ _ | exact macP_len _ _ | exact zd_length | rfl) (by first | assumption | exact shaP_len _ | exact sgn_len _ _ _ _ | exact macP_len _ _ | exact zd_length | rfl) (by first | assumption | exact shaP_len _ | exact sgn_len _ _ _ _ | exact macP_len _ _ | exact zd_length | rfl) | (rw [sgL_len (by first | assumption | exact shaP_len _ | exact sgn_len _ _ _ _ | exact macP_len _ _ | exact zd_length | rfl) (by first | assumption | exact shaP_len _ | exact sgn_len _ _ _ _ | exact macP_len _ _ | exact zd_length | rfl) (by first | assumption | exact shaP_len _ | exact sgn_len _ _ _ _ | exact macP_len _ _ | exact zd_length | rfl), sgL_len (by first | assumption | exact shaP_len _ | exact sgn_len _ _ _ _ | exact macP_len _ _ | exact zd_length | rfl) (by first | assumption | exact shaP_len _ | exact sgn_len _ _ _ _ | exact macP_len _ _ | exact zd_length | rfl) (by first | assumption | exact shaP_len _ | exact sgn_len _ _ _ _ | exact macP_len _ _ | exact zd_length | rfl)])) ?_
    refine L_nil ?_
    change J _ _ _ _
    refine J_seq ?_
    refine J_seq ?_
    refine J_region ?_
    refine L_v rfl rfl rfl (V_move rfl rfl) ?_
    refine L_v rfl rfl rfl (V_quo rfl rfl rfl (by omega) (q64 (by omega) (by omega) (by omega))) ?_
    refine L_nil ?_
    change J _ _ _ _
    refine J_block ?_
    refine J_seq ?_
    refine J_region ?_
    refine L_v rfl rfl rfl (V_eql rfl rfl rfl (by first | exact decide_eq_true (by omega) | exact decide_eq_false (by omega) | rfl)) ?_
    refine L_v rfl rfl rfl (V_assign rfl rfl) ?_
    refine L_nil ?_
    change J _ _ _ _
    refine J_false rfl ?_
    refine J_seq ?_
    refine J_region ?_
    refine L_v rfl rfl rfl (V_eql rfl rfl rfl (by first | exact decide_eq_true (by omega) | exact decide_eq_false (by omega) | rfl)) ?_
    refine L_v rfl rfl rfl (V_assign rfl rfl) ?_
    refine L_nil ?_
    change J _ _ _ _
    refine J_false rfl ?_
    refine J_seq ?_
    refine J_region ?_
    refine L_v rfl rfl rfl (V_eql rfl rfl rfl (by first | exact decide_eq_true (by omega) | exact decide_eq_false (by omega) | rfl)) ?_
    refine L_v rfl rfl rfl (V_assign rfl rfl) ?_
    refine L_nil ?_
    change J _ _ _ _
    refine J_true rfl ?_
    refine J_region ?_
    refine L_v rfl rfl rfl (V_move rfl rfl) ?_
    refine L_v rfl rfl rfl (V_rem (r := (k : Int)) rfl rfl rfl (by omega) (by rw [r64 (by omega)]; exact hkk)) ?_
    refine L_v rfl rfl rfl (V_move rfl rfl) ?_
    refine L_v rfl rfl rfl (V_rem (r := (k : Int)) rfl rfl rfl (by omega) (by rw [r64 (by omega)]; exact hkk)) ?_
    refine L_v rfl rfl rfl (V_fieldAddr rfl rfl Tryd.underlying36 rfl sz25z rfl) ?_
    refine L_v rfl rfl rfl (V_fieldAddr rfl rfl Tryd.underlying25 rfl sz23z rfl) ?_
    refine L_v rfl rfl rfl (V_indexArr (off' := 33 + k) rfl rfl rfl Tryd.underlying23 sz5z (by omega) (by omega) (show 0 + 0 + 33 + ((k : Nat) : Int).toNat * 1 = 33 + k by omega)) ?_
    refine L_v rfl rfl rfl (V_load1 2 rfl rfl rfl Tryd.underlying5 rfl (sg_getP hr hp (by omega))) ?_
    refine L_v rfl rfl rfl (V_move rfl rfl) ?_
    refine L_v rfl rfl rfl (V_xor rfl rfl rfl rfl) ?_
    refine L_v rfl rfl rfl (V_fieldAddr rfl rfl Tryd.underlying36 rfl sz25z rfl) ?_
    refine L_v rfl rfl rfl (V_fieldAddr rfl rfl Tryd.underlying25 rfl sz23z rfl) ?_
    refine L_v rfl rfl rfl (V_indexArr (off' := 33 + k) rfl rfl rfl Tryd.underlying23 sz5z (by omega) (by omega) (show 0 + 0 + 33 + ((k : Nat) : Int).toNat * 1 = 33 + k by omega)) ?_
    refine L_store1 2 rfl rfl rfl rfl rfl rfl rfl sz5z (by rw [sgL_len hr hp (sgn_len _ _ _ _)]; omega) (sg_setP hr hp hk32 _) ?_
    refine L_nil ?_
    change J _ _ _ _
    refine J_seq ?_
    refine J_region ?_
    refine L_v rfl rfl rfl (V_fieldAddr rfl rfl Tryd.underlying36 rfl sz25z rfl) ?_
    refine L_v rfl rfl rfl (V_loadP 2 (vs := hdL er r (p.set k (bits2 .xor .u8 (p.getD k 0) by_))) rfl rfl rfl Tryd.underlying25 rfl (szd sz25z (by first | exact hdL_len (by first | assumption | exact shaP_len _ | exact sgn_len _ _ _ _ | exact macP_len _ _ | exact zd_length | rfl) (by first | assumption | exact shaP_len _ | exact sgn_len _ _ _ _ | exact macP_len _ _ | exact zd_length | rfl) | (rw [hdL_len (by first | assumption | exact shaP_len _ | exact sgn_len _ _ _ _ | exact macP_len _ _ | exact zd_length | rfl) (by first | assumption | exact shaP_len _ | exact sgn_len _ _ _ _ | exact macP_len _ _ | exact zd_length | rfl), hdL_len (by first | assumption | exact shaP_len _ | exact sgn_len _ _ _ _ | exact macP_len _ _ | exact zd_length | rfl) (by first | assumption | exact shaP_len _ | exact sgn_len _ _ _ _ | exact macP_len _ _ | exact zd_length | rfl)]))) (sg_hd hr hx)) ?_
    refine L_callB rfl rfl rfl rfl rfl rfl tx9z (fun w1 hw => hbytes_ok er r (p.set k (bits2 .xor .u8 (p.getD k 0) by_)) w1 hr hx hq0 hq1) (fun g1 r1 c1 hl1 hc1 hr1 => ?_)
    refine L_v rfl rfl rfl (V_move rfl rfl) ?_
    refine L_v rfl rfl rfl (V_extract rfl rfl rfl) ?_
    refine L_v rfl rfl rfl (V_extract rfl rfl rfl) ?_
    refine L_v rfl rfl rfl (V_assign rfl rfl) ?_
    refine L_v rfl rfl rfl (V_assign rfl rfl) ?_
    refine L_nil ?_
    change J _ _ _ _
    refine J_seq ?_
    refine J_region ?_
    refine L_v rfl rfl rfl (V_move rfl rfl) ?_
    refine L_v rfl rfl rfl (V_loadW 2 rfl rfl rfl Tryd.underlying36 rfl (szd sz36z (by first | exact sgL_len (by first | assumption | exact shaP_len _ | exact sgn_len _ _ _ _ | exact macP_len _ _ | exact zd_length | rfl) (by first | assumption | exact shaP_len _ | exact sgn_len _ _ _ _ | exact macP_len _ _ | exact zd_length | rfl) (by first | assumption | exact shaP_len _ | exact sgn_len _ _ _ _ | exact macP_len _ _ | exact zd_length | rfl) | (rw [sgL_len (by first | assumption | exact shaP_len _ | exact sgn_len _ _ _ _ | exact macP_len _ _ | exact zd_length | rfl) (by first | assumption | exact shaP_len _ | exact sgn_len _ _ _ _ | exact macP_len _ _ | exact zd_length | rfl) (by first | assumption | exact shaP_len _ | exact sgn_len _ _ _ _ | exact macP_len _ _ | exact zd_length | rfl), sgL_len (by first | assumption | exact shaP_len _ | exact sgn_len _ _ _ _ | exact macP_len _ _ | exact zd_length | rfl) (by first | assumption | exact shaP_len _ | exact sgn_len _ _ _ _ | exact macP_len _ _ | exact zd_length | rfl) (by first | assumption | exact shaP_len _ | exact sgn_len _ _ _ _ | exact macP_len _ _ | exact zd_length | rfl)])))) ?_
    refine L_callV rfl rfl rfl rfl rfl rfl tx17z (fun w1 hw => chk_w s er r (p.set k (bits2 .xor .u8 (p.getD k 0) by_)) (sgn s er r p) w1 hr hx (sgn_len _ _ _ _) hrb bx (sgn_byt _ _ _ _) (TabK.later hw (by simp) hK)) ?_
    refine L_v rfl rfl rfl (V_assign rfl rfl) ?_
    refine L_nil ?_
    change J _ _ _ _
    refine J_seq ?_
    refine J_regionO (.one 0 (.pure 1 (.one 2 (.pure 3 (.pure 4 (.pure 5 (.pure 6 (.pure 7 (.pure 8 (.pure 9 (.pure 10 (.pure 11 (.pure 13 (.pure 15 (.pure 16 (.one 12 (.one 14 (.pure 17 (.pure 18 (.pure 19 (.pure 20 (.nil)))))))))))))))))))))) ([(b2, row 36 (sgL er r (p.set k (bits2 .xor .u8 (p.getD k 0) by_)) (sgn s er r p)))]) _ (Pk.of_sub (List.Sublist.cons _ (List.Sublist.cons _ (List.Sublist.cons_cons _ (List.nil_sublist _))))) (fun f hf => hf) rfl rfl (by kernel_rfl) ?_
    refine LO_callV rfl rfl rfl rfl rfl rfl rfl rfl tx16z (fun w1 hw => signs_w w1 (TabK.later hw (by simp) hK)) (Pk.of_sub (List.Sublist.cons _ (List.Sublist.cons _ (List.Sublist.cons_cons _ (List.nil_sublist _))))) (fun f hf => hf) ?_
    refine LO_v rfl rfl rfl rfl (V_move rfl rfl) ?_
    refine LO_wcallV rfl rfl rfl rfl rfl rfl rfl rfl rfl rfl rfl tx12z (fun w1 _ => lays_w w1) (Pk.of_sub (List.Sublist.cons _ (List.Sublist.cons _ (List.Sublist.cons_cons _ (List.nil_sublist _))))) (fun f hf => hf) ?_
    first | refine LO_v rfl rfl rfl rfl (V_pickT rfl rfl rfl) ?_ | refine LO_v rfl rfl rfl rfl (V_pickF rfl rfl rfl) ?_
    refine LO_v rfl rfl rfl rfl (V_move rfl rfl) ?_
    refine LO_wv rfl rfl rfl rfl rfl rfl rfl (V_move rfl rfl) ?_
    refine LO_wv rfl rfl rfl rfl rfl rfl rfl (V_eql rfl rfl rfl (by first | exact decide_eq_true (by omega) | exact decide_eq_false (by omega) | rfl)) ?_
    first | refine LO_v rfl rfl rfl rfl (V_pickT rfl rfl rfl) ?_ | refine LO_v rfl rfl rfl rfl (V_pickF rfl rfl rfl) ?_
    refine LO_v rfl rfl rfl rfl (V_move rfl rfl) ?_
    refine LO_wv rfl rfl rfl rfl rfl rfl rfl (V_move rfl rfl) ?_
    refine LO_wv rfl rfl rfl rfl rfl rfl rfl (V_eql rfl rfl rfl (by first | exact decide_eq_true (by omega) | exact decide_eq_false (by omega) | rfl)) ?_
    refine LO_wv rfl rfl rfl rfl rfl rfl rfl (V_move rfl rfl) ?_
    refine LO_wv rfl rfl rfl rfl rfl rfl rfl (V_move rfl rfl) ?_
    refine LO_wv rfl rfl rfl rfl rfl rfl rfl (V_fieldAddr rfl rfl Tryd.underlying36 rfl sz23z rfl) ?_
    refine LO_wv rfl rfl rfl rfl rfl rfl rfl (V_loadP 0 (vs := dg (sgn s er r p)) rfl rfl rfl Tryd.underlying23 rfl (szd sz23z (by first | (rw [dg_length]; exact (by first | assumption | exact shaP_len _ | exact sgn_len _ _ _ _ | exact macP_len _ _ | exact zd_length | rfl)) | exact (rfl : (dg zd).length = (dg zd).length) | (rw [dg_length, dg_length, show zd.length = 32 from rfl]; exact Eq.symm (by first | assumption | exact shaP_len _ | exact sgn_len _ _ _ _ | exact macP_len _ _ | exact zd_length | rfl)))) (sg_sig hr hx)) ?_
    refine LO_sw rfl rfl rfl rfl rfl rfl (S_toBytesC rfl rfl rfl rfl Tryd.underlying9 Tryd.underlying26 Tryd.underlying5 (fun b4 c4 r4 z4 hc4 hr4 => ⟨(Pk.app (Pk.of_sub (List.Sublist.cons _ (List.Sublist.cons _ (List.Sublist.cons_cons _ (List.nil_sublist _))))) _), fun f hf => hf, ?_⟩)) 
    refine LO_wcallV rfl rfl rfl rfl rfl rfl rfl rfl rfl rfl rfl tx19z (fun w1 hw => mac_w (bs s) (some ⟨b4, 0, none⟩) s.size c4 (lay er r (p.set k (bits2 .xor .u8 (p.getD k 0) by_))) (some ⟨g1, 0, none⟩) (0 + (grp er).length + 32 + 32) c1 w1 (SlB.of_own hw (i := 4) rfl (bs_length _) c4) (bs_byt s) (SlB.of_own hw (i := 3) (l := lay er r (p.set k (bits2 .xor .u8 (p.getD k 0) by_))) rfl hl1 c1) (lay_byt (by omega) hq1 hrb bx) hc4 hc1 (TabK.later hw (by simp) hK) (by rw [bs_length]; omega) (by rw [lay_len hr hx]; omega)) (Pk.app (Pk.of_sub (List.Sublist.cons _ (List.Sublist.cons _ (List.Sublist.cons_cons _ (List.nil_sublist _))))) _) (fun f hf => hf) ?_
    refine LO_wv rfl rfl rfl rfl rfl rfl rfl (V_eqD rfl rfl rfl egD9 Tryd.underlying23 Tryd.underlying5 sz5z (by first | assumption | exact shaP_len _ | exact sgn_len _ _ _ _ | exact macP_len _ _ | exact zd_length | rfl) (by first | assumption | exact shaP_len _ | exact sgn_len _ _ _ _ | exact macP_len _ _ | exact zd_length | rfl) rfl) ?_
    refine LO_wv rfl rfl rfl rfl rfl rfl rfl (V_eqB rfl rfl rfl Tryd.underlying4 (chk_two hk he)) ?_
    first | refine LO_v rfl rfl rfl rfl (V_pickT rfl rfl rfl) ?_ | refine LO_v rfl rfl rfl rfl (V_pickF rfl rfl rfl) ?_
    refine LO_v rfl rfl rfl rfl (V_assign rfl rfl) ?_
    refine LO_nil ?_
    change J _ _ _ _
    refine J_ret ?_
    change Kret _ _ _ Exit.ret _
    refine ret1 rfl rfl (RV_t rfl) ?_
    exact fun w' h => ⟨rfl, h.fr⟩

theorem HeadBack_w (s : ByteArray) (er : Int) (r p : List Int) (at_ by_ : Int) (w : World) (hr : r.length = 32) (hp : p.length = 32) (hrb : Byt r) (hpb : Byt p) (hwx : (Lit.int .i64 at_).wf = true) (hwy : (Lit.int .u8 by_).wf = true) (hK : TabK KT 0 w)  :
    Calls Tryd.prog 6 #[.string s, .agg (hdL er r p).toArray, .int .i64 at_, .int .u8 by_] w fun e w' => e = .returned (.bool true) ∧ Fr [] w w' := by
  cases he : okE er with
  | false => exact HeadBack_noE s er r p at_ by_ w hr hp hrb hpb he hK
  | true =>
    cases hk : okK s with
    | false => exact HeadBack_noK s er r p at_ by_ w hr hp hrb hpb hk he hK
    | true =>
      by_cases h : 0 ≤ at_ ∧ at_ < 96 ∧ by_ ≠ 0
      · by_cases h1 : at_ < 32
        · exact HeadBack_s s er r p at_ by_ w hr hp hrb hpb hk he (by omega) h.2.2 hK
        · by_cases h2 : at_ < 64
          · exact HeadBack_r s er r p at_ by_ w hr hp hrb hpb hk he (by omega) h.2.2 hK
          · exact HeadBack_q s er r p at_ by_ w hr hp hrb hpb hk he (by omega) h.2.2 hK
      · exact HeadBack_out s er r p at_ by_ w hr hp hrb hpb hk he h hK
end Go.Proofs.YtbckeoidnpfbnaaDoor
