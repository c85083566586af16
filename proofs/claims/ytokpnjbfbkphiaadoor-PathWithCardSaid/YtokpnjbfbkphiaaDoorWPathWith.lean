/- What the law comes to. -/
import Derived.Test.YtokpnjbfbkphiaaDoorSha4
import Derived.Test.YtokpnjbfbkphiaaDoorPath
import Derived.Test.YtokpnjbfbkphiaaDoorSx4
set_option linter.unusedVariables false
set_option linter.unusedSimpArgs false
set_option maxRecDepth 100000
namespace Go.Proofs.YtokpnjbfbkphiaaDoor
open Go.Sx
theorem sz5q : (Tryd.prog.info? 5).map (·.size) = some 1 := by kernel_rfl
theorem sz23q : (Tryd.prog.info? 23).map (·.size) = some 32 := by kernel_rfl
theorem tx4q : Txt Tryd.prog 4 := txt_of Tryd.func4 rfl (by kernel_rfl)
theorem tx5q : Txt Tryd.prog 5 := txt_of Tryd.func5 rfl (by kernel_rfl)
theorem tx6q : Txt Tryd.prog 6 := txt_of Tryd.func6 rfl (by kernel_rfl)
theorem tx7q : Txt Tryd.prog 7 := txt_of Tryd.func7 rfl (by kernel_rfl)
theorem tx8q : Txt Tryd.prog 8 := txt_of Tryd.func8 rfl (by kernel_rfl)
theorem tx13q : Txt Tryd.prog 13 := txt_of Tryd.func13 rfl (by kernel_rfl)
theorem tx14q : Txt Tryd.prog 14 := txt_of Tryd.func14 rfl (by kernel_rfl)
theorem z23q : (Tryd.prog.info? 23).bind (·.zero) = some (.agg (dg zd).toArray) := by kernel_rfl

theorem of_w (s : ByteArray) (w : World) (hK : TabK KT 1 w) (hs : s.size ≤ 1099511626000) :
    Calls Tryd.prog 7 #[.string s] w fun e w' => e = .returned (.agg (dg (shaP (bs s))).toArray) ∧ Fr [] w w' := by
  refine calls_of (args := [.string s]) ([]) ([]) ([]) Tryd.func7 rfl rfl (okW0 _ _ _ _) ?_
  refine J_seq ?_
  refine J_region ?_
  refine L_alloc rfl rfl rfl rfl z23q (fun b0 => ?_)
  refine L_nil ?_
  change J _ _ _ _
  refine J_seq ?_
  refine J_region ?_
  refine L_v rfl rfl rfl (V_move rfl rfl) ?_
  refine L_toBytesC rfl rfl rfl rfl rfl Tryd.underlying9 Tryd.underlying36 Tryd.underlying5 (fun b1 c1 r1 z1 hc1 hr1 => ?_)
  refine L_callV rfl rfl rfl rfl rfl rfl tx13q (fun w1 hw => ssum_w (bs s) (some ⟨b1, 0, none⟩) s.size c1 w1 (SlB.of_own hw (i := 1) rfl (bs_length _) c1) (bs_byt s) hc1 (TabK.later hw (by simp) hK) (by rw [bs_length]; omega)) ?_
  refine L_storeW 0 rfl rfl rfl rfl rfl rfl (szd sz23q (by first | (rw [dg_length]; exact shaP_len _) | (rw [dg_length]; exact withV_length (by assumption) _ _) | (rw [dg_length, dg_length, shaP_len]; rfl) | (simp [dg_length, zd_length, withV_length, *]; done))) (dg_one _) (by first | (rw [dg_length]; exact shaP_len _) | (rw [dg_length]; exact withV_length (by assumption) _ _) | (rw [dg_length, dg_length, shaP_len]; rfl) | (simp [dg_length, zd_length, withV_length, *]; done)) ?_
  refine L_nil ?_
  change J _ _ _ _
  refine J_ret ?_
  change Kret _ _ _ Exit.ret _
  refine ret1 rfl rfl (RV_c 0 rfl rfl Tryd.underlying23 rfl (szd sz23q (by first | (rw [dg_length]; exact shaP_len _) | (rw [dg_length]; exact withV_length (by assumption) _ _) | (rw [dg_length, dg_length, shaP_len]; rfl) | (simp [dg_length, zd_length, withV_length, *]; done)))) ?_
  exact fun w' h => ⟨rfl, h.fr⟩

theorem rof_w (s : ByteArray) (w : World) (hK : TabK KT 0 w) (hs : s.size ≤ 1099511626000) :
    Calls Tryd.prog 8 #[.string s] w fun e w' => e = .returned (.agg (dg (shaP (bs s))).toArray) ∧ Fr [] w w' := by
  refine calls_of (args := [.string s]) ([]) ([]) ([]) Tryd.func8 rfl rfl (okW0 _ _ _ _) ?_
  refine J_seq ?_
  refine J_region ?_
  refine L_alloc rfl rfl rfl rfl z23q (fun b0 => ?_)
  refine L_nil ?_
  change J _ _ _ _
  refine J_seq ?_
  refine J_region ?_
  refine L_v rfl rfl rfl (V_move rfl rfl) ?_
  refine L_toBytesC rfl rfl rfl rfl rfl Tryd.underlying9 Tryd.underlying36 Tryd.underlying5 (fun b1 c1 r1 z1 hc1 hr1 => ?_)
  refine L_callV rfl rfl rfl rfl rfl rfl tx14q (fun w1 hw => rsum_w (bs s) (some ⟨b1, 0, none⟩) s.size c1 w1 (SlB.of_own hw (i := 1) rfl (bs_length _) c1) (bs_byt s) (TabK.later hw (by simp) hK) (by rw [bs_length]; omega)) ?_
  refine L_storeW 0 rfl rfl rfl rfl rfl rfl (szd sz23q (by first | (rw [dg_length]; exact shaP_len _) | (rw [dg_length]; exact withV_length (by assumption) _ _) | (rw [dg_length, dg_length, shaP_len]; rfl) | (simp [dg_length, zd_length, withV_length, *]; done))) (dg_one _) (by first | (rw [dg_length]; exact shaP_len _) | (rw [dg_length]; exact withV_length (by assumption) _ _) | (rw [dg_length, dg_length, shaP_len]; rfl) | (simp [dg_length, zd_length, withV_length, *]; done)) ?_
  refine L_nil ?_
  change J _ _ _ _
  refine J_ret ?_
  change Kret _ _ _ Exit.ret _
  refine ret1 rfl rfl (RV_c 0 rfl rfl Tryd.underlying23 rfl (szd sz23q (by first | (rw [dg_length]; exact shaP_len _) | (rw [dg_length]; exact withV_length (by assumption) _ _) | (rw [dg_length, dg_length, shaP_len]; rfl) | (simp [dg_length, zd_length, withV_length, *]; done)))) ?_
  exact fun w' h => ⟨rfl, h.fr⟩

theorem PathWith_in (x : List Int) (i b : Int) (s : ByteArray) (w : World) (hx : x.length = 32) (bx : Byt x) (hK : TabK KT 1 w) (hR : TabK KT 0 w) :
    Calls Tryd.prog 3 #[.agg (dg x).toArray, .int .i64 i, .int .i64 b, .string s] w fun e w' => e = .returned (.bool true) ∧ Fr [] w w' := by
  refine calls_of (args := [.agg (dg x).toArray, .int .i64 i, .int .i64 b, .string s]) ([]) ([]) ([]) Tryd.func3 rfl rfl (okW0 _ _ _ _) ?_
  refine J_seq ?_
  refine J_region ?_
  refine L_box rfl rfl rfl rfl rfl (fun b0 => ?_)
  refine L_v rfl rfl rfl (V_assign rfl rfl) ?_
  refine L_nil ?_
  change J _ _ _ _
  refine J_seq ?_
  refine J_seq ?_
  refine J_region ?_
  refine L_v rfl rfl rfl (V_move rfl rfl) ?_
  refine L_v rfl rfl rfl (V_lenS rfl rfl Tryd.underlying9 rfl) ?_
  refine L_v rfl rfl rfl (V_gtr rfl rfl rfl (by first | exact decide_eq_true (by omega) | exact decide_eq_false (by omega) | rfl)) ?_
  refine L_nil ?_
  change J _ _ _ _
  refine J_cond rfl (fun h1 => ?_) (fun h1 => ?_)
  ·
    first | (have h1 := h1; rw [decide_eq_true_eq] at h1) | (have h1 := h1; rw [decide_eq_false_iff_not] at h1) | skip
    refine J_seq ?_
    refine J_region ?_
    refine L_v rfl rfl rfl (V_assign rfl rfl) ?_
    refine L_nil ?_
    change J _ _ _ _
    refine J_ret ?_
    change Kret _ _ _ Exit.ret _
    refine ret1 rfl rfl (RV_t rfl) ?_
    exact fun w' h => ⟨rfl, h.fr⟩
  ·
    first | (have h1 := h1; rw [decide_eq_true_eq] at h1) | (have h1 := h1; rw [decide_eq_false_iff_not] at h1) | skip
    refine J_skip ?_
    change J _ _ _ _
    refine J_seq ?_
    refine J_region ?_
    refine L_v rfl rfl rfl (V_loadW 0 rfl rfl rfl Tryd.underlying23 rfl (szd sz23q (by first | (rw [dg_length]; exact shaP_len _) | (rw [dg_length]; exact withV_length (by assumption) _ _) | (rw [dg_length, dg_length, shaP_len]; rfl) | (simp [dg_length, zd_length, withV_length, *]; done)))) ?_
    refine L_v rfl rfl rfl (V_move rfl rfl) ?_
    refine L_v rfl rfl rfl (V_move rfl rfl) ?_
    refine L_callV rfl rfl rfl rfl rfl rfl tx4q (fun w1 _ => with_w x i b w1 hx bx) ?_
    refine L_v rfl rfl rfl (V_move rfl rfl) ?_
    refine L_v rfl rfl rfl (V_extract rfl rfl rfl) ?_
    refine L_v rfl rfl rfl (V_extract rfl rfl rfl) ?_
    refine L_alloc rfl rfl rfl rfl z23q (fun b1 => ?_)
    refine L_storeW 1 rfl rfl rfl rfl rfl rfl (szd sz23q (by first | (rw [dg_length]; exact shaP_len _) | (rw [dg_length]; exact withV_length (by assumption) _ _) | (rw [dg_length, dg_length, shaP_len]; rfl) | (simp [dg_length, zd_length, withV_length, *]; done))) (dg_one _) (by first | (rw [dg_length]; exact shaP_len _) | (rw [dg_length]; exact withV_length (by assumption) _ _) | (rw [dg_length, dg_length, shaP_len]; rfl) | (simp [dg_length, zd_length, withV_length, *]; done)) ?_
    refine L_v rfl rfl rfl (V_assign rfl rfl) ?_
    refine L_nil ?_
    change J _ _ _ _
    refine J_seq ?_
    refine J_region ?_
    refine L_v rfl rfl rfl (V_loadW 0 rfl rfl rfl Tryd.underlying23 rfl (szd sz23q (by first | (rw [dg_length]; exact shaP_len _) | (rw [dg_length]; exact withV_length (by assumption) _ _) | (rw [dg_length, dg_length, shaP_len]; rfl) | (simp [dg_length, zd_length, withV_length, *]; done)))) ?_
    refine L_v rfl rfl rfl (V_move rfl rfl) ?_
    refine L_v rfl rfl rfl (V_move rfl rfl) ?_
    refine L_callV rfl rfl rfl rfl rfl rfl tx5q (fun w1 _ => rwith_w x i b w1 hx bx) ?_
    refine L_v rfl rfl rfl (V_move rfl rfl) ?_
    refine L_v rfl rfl rfl (V_extract rfl rfl rfl) ?_
    refine L_v rfl rfl rfl (V_extract rfl rfl rfl) ?_
    refine L_alloc rfl rfl rfl rfl z23q (fun b2 => ?_)
    refine L_storeW 2 rfl rfl rfl rfl rfl rfl (szd sz23q (by first | (rw [dg_length]; exact shaP_len _) | (rw [dg_length]; exact withV_length (by assumption) _ _) | (rw [dg_length, dg_length, shaP_len]; rfl) | (simp [dg_length, zd_length, withV_length, *]; done))) (dg_one _) (by first | (rw [dg_length]; exact shaP_len _) | (rw [dg_length]; exact withV_length (by assumption) _ _) | (rw [dg_length, dg_length, shaP_len]; rfl) | (simp [dg_length, zd_length, withV_length, *]; done)) ?_
    refine L_v rfl rfl rfl (V_assign rfl rfl) ?_
    refine L_nil ?_
    change J _ _ _ _
    refine J_seq ?_
    refine J_region ?_
    refine L_callV rfl rfl rfl rfl rfl rfl tx6q (fun w1 _ => bits_w w1) ?_
    refine L_v rfl rfl rfl (V_move rfl rfl) ?_
    refine L_wv rfl rfl rfl rfl rfl rfl (V_loadW 1 rfl rfl rfl Tryd.underlying23 rfl (szd sz23q (by first | (rw [dg_length]; exact shaP_len _) | (rw [dg_length]; exact withV_length (by assumption) _ _) | (rw [dg_length, dg_length, shaP_len]; rfl) | (simp [dg_length, zd_length, withV_length, *]; done)))) ?_
    refine L_wv rfl rfl rfl rfl rfl rfl (V_loadW 2 rfl rfl rfl Tryd.underlying23 rfl (szd sz23q (by first | (rw [dg_length]; exact shaP_len _) | (rw [dg_length]; exact withV_length (by assumption) _ _) | (rw [dg_length, dg_length, shaP_len]; rfl) | (simp [dg_length, zd_length, withV_length, *]; done)))) ?_
    refine L_wv rfl rfl rfl rfl rfl rfl (V_eqD rfl rfl rfl eg23 Tryd.underlying23 Tryd.underlying5 sz5q (by first | exact shaP_len _ | exact withV_length (by assumption) _ _ | assumption) (by first | exact shaP_len _ | exact withV_length (by assumption) _ _ | assumption) (decide_eq_true rfl)) ?_
    first | refine L_v rfl rfl rfl (V_pickT rfl rfl rfl) ?_ | refine L_v rfl rfl rfl (V_pickF rfl rfl rfl) ?_
    refine L_v rfl rfl rfl (V_move rfl rfl) ?_
    refine L_wv rfl rfl rfl rfl rfl rfl (V_move rfl rfl) ?_
    refine L_wv rfl rfl rfl rfl rfl rfl (V_move rfl rfl) ?_
    refine L_wv rfl rfl rfl rfl rfl rfl (V_eql rfl rfl rfl (by first | exact decide_eq_true (by omega) | exact decide_eq_false (by omega) | rfl)) ?_
    first | refine L_v rfl rfl rfl (V_pickT rfl rfl rfl) ?_ | refine L_v rfl rfl rfl (V_pickF rfl rfl rfl) ?_
    refine L_v rfl rfl rfl (V_move rfl rfl) ?_
    refine L_wv rfl rfl rfl rfl rfl rfl (V_move rfl rfl) ?_
    refine L_wcallV rfl rfl rfl rfl rfl rfl rfl rfl rfl tx7q (fun w1 hw => of_w s w1 (TabK.later hw (by simp) hK) (by omega)) ?_
    refine L_wv rfl rfl rfl rfl rfl rfl (V_move rfl rfl) ?_
    refine L_wcallV rfl rfl rfl rfl rfl rfl rfl rfl rfl tx8q (fun w1 hw => rof_w s w1 (TabK.later hw (by simp) hR) (by omega)) ?_
    refine L_wv rfl rfl rfl rfl rfl rfl (V_eqD rfl rfl rfl eg23 Tryd.underlying23 Tryd.underlying5 sz5q (by first | exact shaP_len _ | exact withV_length (by assumption) _ _ | assumption) (by first | exact shaP_len _ | exact withV_length (by assumption) _ _ | assumption) (decide_eq_true rfl)) ?_
    first | refine L_v rfl rfl rfl (V_pickT rfl rfl rfl) ?_ | refine L_v rfl rfl rfl (V_pickF rfl rfl rfl) ?_
    refine L_v rfl rfl rfl (V_assign rfl rfl) ?_
    refine L_nil ?_
    change J _ _ _ _
    refine J_ret ?_
    change Kret _ _ _ Exit.ret _
    refine ret1 rfl rfl (RV_t rfl) ?_
    exact fun w' h => ⟨rfl, h.fr⟩

theorem PathWith_w (x : List Int) (i b : Int) (s : ByteArray) (w : World) (hx : x.length = 32) (bx : Byt x) (hK : TabK KT 1 w) (hR : TabK KT 0 w) :
    Calls Tryd.prog 3 #[.agg (dg x).toArray, .int .i64 i, .int .i64 b, .string s] w fun e w' => e = .returned (.bool true) ∧ Fr [] w w' := PathWith_in x i b s w hx bx hK hR

end Go.Proofs.YtokpnjbfbkphiaaDoor
