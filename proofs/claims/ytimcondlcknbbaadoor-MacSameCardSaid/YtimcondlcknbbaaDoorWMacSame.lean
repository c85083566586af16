/- What the law comes to. -/
import Derived.Test.YtimcondlcknbbaaDoorMac2
import Derived.Test.YtimcondlcknbbaaDoorKeep
set_option linter.unusedVariables false
set_option linter.unusedSimpArgs false
set_option maxRecDepth 100000
namespace Go.Proofs.YtimcondlcknbbaaDoor
open Go.Sx
theorem egD : Tryd.prog.eqGuardType Tryd.prog.depth 26 = false := by kernel_rfl
theorem ssum_b (L : List Int) (a : Option Addr) (n c : Nat) (w : World) (hu : SlB w (.slice a n c) L) (hby : Byt L) (hcn : n ≤ c) (hK : TabK KT 0 w) (hsz : L.length ≤ 1099511627000) {d : List Int} (h : shaP L = d) : Calls Tryd.prog 12 #[.slice a n c] w fun e w' => e = .returned (.agg (dg d).toArray) ∧ Fr [] w w' := by
  subst h
  exact ssum_w L a n c w hu hby hcn hK hsz
theorem sz5o : (Tryd.prog.info? 5).map (·.size) = some 1 := by kernel_rfl
theorem sz26o : (Tryd.prog.info? 26).map (·.size) = some 32 := by kernel_rfl
theorem tx8o : Txt Tryd.prog 8 := txt_of Tryd.func8 rfl (by kernel_rfl)
theorem tx13o : Txt Tryd.prog 13 := txt_of Tryd.func13 rfl (by kernel_rfl)
theorem z26o : (Tryd.prog.info? 26).bind (·.zero) = some (.agg (dg zd).toArray) := by kernel_rfl

theorem MacSame_t (x y : List Int) (at_ by_ : Int) (w : World) (hx : x.length = 32) (hy : y.length = 32) (bx : Byt x) (by2 : Byt y) (hat : 0 ≤ at_ ∧ at_ < 32) (hK : TabK KT 0 w)  :
    Calls Tryd.prog 5 #[.agg (dg x).toArray, .agg (dg y).toArray, .int .i64 at_, .int .u8 by_] w fun e w' => e = .returned (.bool true) ∧ Fr [] w w' := by
  refine calls_of (args := [.agg (dg x).toArray, .agg (dg y).toArray, .int .i64 at_, .int .u8 by_]) ([]) ([]) ([]) Tryd.func5 rfl rfl (okW0 _ _ _ _) ?_
  refine J_seq ?_
  refine J_region ?_
  refine L_box rfl rfl rfl rfl rfl (fun b0 => ?_)
  refine L_box rfl rfl rfl rfl rfl (fun b1 => ?_)
  refine L_v rfl rfl rfl (V_assign rfl rfl) ?_
  refine L_nil ?_
  change J _ _ _ _
  refine J_seq ?_
  refine J_region ?_
  refine L_v rfl rfl rfl (V_loadW 0 rfl rfl rfl Tryd.underlying26 rfl (szd sz26o (by first | (rw [dg_length]; exact shaP_len _) | (rw [dg_length]; exact macP_len _ _) | (rw [dg_length, dg_length, shaP_len]; rfl) | (rw [dg_length, dg_length, macP_len]; rfl) | (rw [dg_length, dg_length, hDD]; rfl) | (simp [dg_length, zd_length, *]; done)))) ?_
  refine L_alloc rfl rfl rfl rfl z26o (fun b2 => ?_)
  refine L_storeW 2 rfl rfl rfl rfl rfl rfl (szd sz26o (by first | (rw [dg_length]; exact shaP_len _) | (rw [dg_length]; exact macP_len _ _) | (rw [dg_length, dg_length, shaP_len]; rfl) | (rw [dg_length, dg_length, macP_len]; rfl) | (rw [dg_length, dg_length, hDD]; rfl) | (simp [dg_length, zd_length, *]; done))) (dg_one _) (by first | (rw [dg_length]; exact shaP_len _) | (rw [dg_length]; exact macP_len _ _) | (rw [dg_length, dg_length, shaP_len]; rfl) | (rw [dg_length, dg_length, macP_len]; rfl) | (rw [dg_length, dg_length, hDD]; rfl) | (simp [dg_length, zd_length, *]; done)) ?_
  refine L_nil ?_
  change J _ _ _ _
  refine J_seq ?_
  refine J_seq ?_
  refine J_region ?_
  refine L_v rfl rfl rfl (V_move rfl rfl) ?_
  refine L_v rfl rfl rfl (V_geq rfl rfl rfl (by first | exact decide_eq_true (by omega) | exact decide_eq_false (by omega) | rfl)) ?_
  refine L_v rfl rfl rfl (V_move rfl rfl) ?_
  refine L_wv rfl rfl rfl rfl rfl rfl (V_move rfl rfl) ?_
  refine L_wv rfl rfl rfl rfl rfl rfl (V_lss rfl rfl rfl (by first | exact decide_eq_true (by omega) | exact decide_eq_false (by omega) | rfl)) ?_
  first | refine L_v rfl rfl rfl (V_pickT rfl rfl rfl) ?_ | refine L_v rfl rfl rfl (V_pickF rfl rfl rfl) ?_
  refine L_nil ?_
  change J _ _ _ _
  refine J_true rfl ?_
  refine J_region ?_
  refine L_v rfl rfl rfl (V_move rfl rfl) ?_
  refine L_v rfl rfl rfl (V_move rfl rfl) ?_
  refine L_v rfl rfl rfl (V_indexArr rfl rfl rfl Tryd.underlying26 sz5o (by omega) (by omega) (by first | exact ix0 _ | exact ix1 _ _ | rfl)) ?_
  refine L_v rfl rfl rfl (V_load1 2 rfl rfl rfl Tryd.underlying5 rfl (by first | rfl | exact dg_get (by omega) (by simp; omega) | exact dg_get (by omega) (by omega))) ?_
  refine L_v rfl rfl rfl (V_move rfl rfl) ?_
  refine L_v rfl rfl rfl (V_xor rfl rfl rfl rfl) ?_
  refine L_v rfl rfl rfl (V_indexArr rfl rfl rfl Tryd.underlying26 sz5o (by omega) (by omega) (by first | exact ix0 _ | exact ix1 _ _ | rfl)) ?_
  refine L_store1 2 rfl rfl rfl rfl rfl rfl rfl sz5o (by rw [dg_length]; omega) (dg_set _ _ _) ?_
  refine L_nil ?_
  change J _ _ _ _
  refine J_seq ?_
  refine J_regionQ rfl (by kernel_rfl) ?_
  refine LQ_callV rfl rfl rfl rfl rfl rfl tx8o (fun w1 hw => macs_w w1 (TabK.later hw (by simp) hK)) ?_
  refine LQ_v rfl rfl rfl (V_move rfl rfl) ?_
  refine LQ_wv rfl rfl rfl rfl rfl rfl (V_loadW 0 rfl rfl rfl Tryd.underlying26 rfl (szd sz26o (by first | (rw [dg_length]; exact shaP_len _) | (rw [dg_length]; exact macP_len _ _) | (rw [dg_length, dg_length, shaP_len]; rfl) | (rw [dg_length, dg_length, macP_len]; rfl) | (rw [dg_length, dg_length, hDD]; rfl) | (simp [dg_length, zd_length, *]; done)))) ?_
  refine LQ_wv rfl rfl rfl rfl rfl rfl (V_loadW 1 rfl rfl rfl Tryd.underlying26 rfl (szd sz26o (by first | (rw [dg_length]; exact shaP_len _) | (rw [dg_length]; exact macP_len _ _) | (rw [dg_length, dg_length, shaP_len]; rfl) | (rw [dg_length, dg_length, macP_len]; rfl) | (rw [dg_length, dg_length, hDD]; rfl) | (simp [dg_length, zd_length, *]; done)))) ?_
  refine LQ_wcallV rfl rfl rfl rfl rfl rfl rfl rfl rfl tx13o (fun w1 hw => dsame_w x y w1 hx hy bx by2) ?_
  refine LQ_wv rfl rfl rfl rfl rfl rfl (V_loadW 0 rfl rfl rfl Tryd.underlying26 rfl (szd sz26o (by first | (rw [dg_length]; exact shaP_len _) | (rw [dg_length]; exact macP_len _ _) | (rw [dg_length, dg_length, shaP_len]; rfl) | (rw [dg_length, dg_length, macP_len]; rfl) | (rw [dg_length, dg_length, hDD]; rfl) | (simp [dg_length, zd_length, *]; done)))) ?_
  refine LQ_wv rfl rfl rfl rfl rfl rfl (V_loadW 1 rfl rfl rfl Tryd.underlying26 rfl (szd sz26o (by first | (rw [dg_length]; exact shaP_len _) | (rw [dg_length]; exact macP_len _ _) | (rw [dg_length, dg_length, shaP_len]; rfl) | (rw [dg_length, dg_length, macP_len]; rfl) | (rw [dg_length, dg_length, hDD]; rfl) | (simp [dg_length, zd_length, *]; done)))) ?_
  refine LQ_wv rfl rfl rfl rfl rfl rfl (V_eqD rfl rfl rfl egD Tryd.underlying26 Tryd.underlying5 sz5o (by first | exact shaP_len _ | exact macP_len _ _ | assumption | rfl | (simp [*]; done)) (by first | exact shaP_len _ | exact macP_len _ _ | assumption | rfl | (simp [*]; done)) rfl) ?_
  refine LQ_wv rfl rfl rfl rfl rfl rfl (V_eqB rfl rfl rfl Tryd.underlying4 (beq_self_eq_true _)) ?_
  first | refine LQ_v rfl rfl rfl (V_pickT rfl rfl rfl) ?_ | refine LQ_v rfl rfl rfl (V_pickF rfl rfl rfl) ?_
  refine LQ_v rfl rfl rfl (V_move rfl rfl) ?_
  refine LQ_wv rfl rfl rfl rfl rfl rfl (V_loadW 0 rfl rfl rfl Tryd.underlying26 rfl (szd sz26o (by first | (rw [dg_length]; exact shaP_len _) | (rw [dg_length]; exact macP_len _ _) | (rw [dg_length, dg_length, shaP_len]; rfl) | (rw [dg_length, dg_length, macP_len]; rfl) | (rw [dg_length, dg_length, hDD]; rfl) | (simp [dg_length, zd_length, *]; done)))) ?_
  refine LQ_wv rfl rfl rfl rfl rfl rfl (V_loadW 2 rfl rfl rfl Tryd.underlying26 rfl (szd sz26o (by first | (rw [dg_length]; exact shaP_len _) | (rw [dg_length]; exact macP_len _ _) | (rw [dg_length, dg_length, shaP_len]; rfl) | (rw [dg_length, dg_length, macP_len]; rfl) | (rw [dg_length, dg_length, hDD]; rfl) | (simp [dg_length, zd_length, *]; done)))) ?_
  refine LQ_wcallV rfl rfl rfl rfl rfl rfl rfl rfl rfl tx13o (fun w1 hw => dsame_w x (x.set at_.toNat (bits2 .xor .u8 (nth x at_) by_)) w1 hx (by rw [List.length_set]; exact hx) bx (bx.set _ (bits8 _ _ _))) ?_
  refine LQ_wv rfl rfl rfl rfl rfl rfl (V_loadW 0 rfl rfl rfl Tryd.underlying26 rfl (szd sz26o (by first | (rw [dg_length]; exact shaP_len _) | (rw [dg_length]; exact macP_len _ _) | (rw [dg_length, dg_length, shaP_len]; rfl) | (rw [dg_length, dg_length, macP_len]; rfl) | (rw [dg_length, dg_length, hDD]; rfl) | (simp [dg_length, zd_length, *]; done)))) ?_
  refine LQ_wv rfl rfl rfl rfl rfl rfl (V_loadW 2 rfl rfl rfl Tryd.underlying26 rfl (szd sz26o (by first | (rw [dg_length]; exact shaP_len _) | (rw [dg_length]; exact macP_len _ _) | (rw [dg_length, dg_length, shaP_len]; rfl) | (rw [dg_length, dg_length, macP_len]; rfl) | (rw [dg_length, dg_length, hDD]; rfl) | (simp [dg_length, zd_length, *]; done)))) ?_
  refine LQ_wv rfl rfl rfl rfl rfl rfl (V_eqD rfl rfl rfl egD Tryd.underlying26 Tryd.underlying5 sz5o (by first | exact shaP_len _ | exact macP_len _ _ | assumption | rfl | (simp [*]; done)) (by first | exact shaP_len _ | exact macP_len _ _ | assumption | rfl | (simp [*]; done)) rfl) ?_
  refine LQ_wv rfl rfl rfl rfl rfl rfl (V_eqB rfl rfl rfl Tryd.underlying4 (beq_self_eq_true _)) ?_
  first | refine LQ_v rfl rfl rfl (V_pickT rfl rfl rfl) ?_ | refine LQ_v rfl rfl rfl (V_pickF rfl rfl rfl) ?_
  refine LQ_v rfl rfl rfl (V_assign rfl rfl) ?_
  refine LQ_nil ?_
  change J _ _ _ _
  refine J_ret ?_
  change Kret _ _ _ Exit.ret _
  refine ret1 rfl rfl (RV_t rfl) ?_
  exact fun w' h => ⟨rfl, h.fr⟩

theorem MacSame_f (x y : List Int) (at_ by_ : Int) (w : World) (hx : x.length = 32) (hy : y.length = 32) (bx : Byt x) (by2 : Byt y) (hat : ¬ (0 ≤ at_ ∧ at_ < 32)) (hK : TabK KT 0 w)  :
    Calls Tryd.prog 5 #[.agg (dg x).toArray, .agg (dg y).toArray, .int .i64 at_, .int .u8 by_] w fun e w' => e = .returned (.bool true) ∧ Fr [] w w' := by
  refine calls_of (args := [.agg (dg x).toArray, .agg (dg y).toArray, .int .i64 at_, .int .u8 by_]) ([]) ([]) ([]) Tryd.func5 rfl rfl (okW0 _ _ _ _) ?_
  refine J_seq ?_
  refine J_region ?_
  refine L_box rfl rfl rfl rfl rfl (fun b0 => ?_)
  refine L_box rfl rfl rfl rfl rfl (fun b1 => ?_)
  refine L_v rfl rfl rfl (V_assign rfl rfl) ?_
  refine L_nil ?_
  change J _ _ _ _
  refine J_seq ?_
  refine J_region ?_
  refine L_v rfl rfl rfl (V_loadW 0 rfl rfl rfl Tryd.underlying26 rfl (szd sz26o (by first | (rw [dg_length]; exact shaP_len _) | (rw [dg_length]; exact macP_len _ _) | (rw [dg_length, dg_length, shaP_len]; rfl) | (rw [dg_length, dg_length, macP_len]; rfl) | (rw [dg_length, dg_length, hDD]; rfl) | (simp [dg_length, zd_length, *]; done)))) ?_
  refine L_alloc rfl rfl rfl rfl z26o (fun b2 => ?_)
  refine L_storeW 2 rfl rfl rfl rfl rfl rfl (szd sz26o (by first | (rw [dg_length]; exact shaP_len _) | (rw [dg_length]; exact macP_len _ _) | (rw [dg_length, dg_length, shaP_len]; rfl) | (rw [dg_length, dg_length, macP_len]; rfl) | (rw [dg_length, dg_length, hDD]; rfl) | (simp [dg_length, zd_length, *]; done))) (dg_one _) (by first | (rw [dg_length]; exact shaP_len _) | (rw [dg_length]; exact macP_len _ _) | (rw [dg_length, dg_length, shaP_len]; rfl) | (rw [dg_length, dg_length, macP_len]; rfl) | (rw [dg_length, dg_length, hDD]; rfl) | (simp [dg_length, zd_length, *]; done)) ?_
  refine L_nil ?_
  change J _ _ _ _
  refine J_seq ?_
  refine J_seq ?_
  refine J_region ?_
  refine L_v rfl rfl rfl (V_move rfl rfl) ?_
  refine L_v rfl rfl rfl (V_geq rfl rfl rfl (by first | exact decide_eq_true (by omega) | exact decide_eq_false (by omega) | rfl)) ?_
  refine L_v rfl rfl rfl (V_move rfl rfl) ?_
  refine L_split 13 rfl (fun h1 => ?_) (fun h1 => ?_)
  ·
    first | (have h1 := h1; rw [decide_eq_true_eq] at h1) | (have h1 := h1; rw [decide_eq_false_iff_not] at h1) | skip
    refine L_wv rfl rfl rfl rfl rfl rfl (V_move rfl rfl) ?_
    refine L_wv rfl rfl rfl rfl rfl rfl (V_lss rfl rfl rfl (by first | exact decide_eq_true (by omega) | exact decide_eq_false (by omega) | rfl)) ?_
    first | refine L_v rfl rfl rfl (V_pickT rfl rfl rfl) ?_ | refine L_v rfl rfl rfl (V_pickF rfl rfl rfl) ?_
    refine L_nil ?_
    change J _ _ _ _
    refine J_false rfl ?_
    refine J_skip ?_
    change J _ _ _ _
    refine J_seq ?_
    refine J_regionQ rfl (by kernel_rfl) ?_
    refine LQ_callV rfl rfl rfl rfl rfl rfl tx8o (fun w1 hw => macs_w w1 (TabK.later hw (by simp) hK)) ?_
    refine LQ_v rfl rfl rfl (V_move rfl rfl) ?_
    refine LQ_wv rfl rfl rfl rfl rfl rfl (V_loadW 0 rfl rfl rfl Tryd.underlying26 rfl (szd sz26o (by first | (rw [dg_length]; exact shaP_len _) | (rw [dg_length]; exact macP_len _ _) | (rw [dg_length, dg_length, shaP_len]; rfl) | (rw [dg_length, dg_length, macP_len]; rfl) | (rw [dg_length, dg_length, hDD]; rfl) | (simp [dg_length, zd_length, *]; done)))) ?_
    refine LQ_wv rfl rfl rfl rfl rfl rfl (V_loadW 1 rfl rfl rfl Tryd.underlying26 rfl (szd sz26o (by first | (rw [dg_length]; exact shaP_len _) | (rw [dg_length]; exact macP_len _ _) | (rw [dg_length, dg_length, shaP_len]; rfl) | (rw [dg_length, dg_length, macP_len]; rfl) | (rw [dg_length, dg_length, hDD]; rfl) | (simp [dg_length, zd_length, *]; done)))) ?_
    refine LQ_wcallV rfl rfl rfl rfl rfl rfl rfl rfl rfl tx13o (fun w1 hw => dsame_w x y w1 hx hy bx by2) ?_
    refine LQ_wv rfl rfl rfl rfl rfl rfl (V_loadW 0 rfl rfl rfl Tryd.underlying26 rfl (szd sz26o (by first | (rw [dg_length]; exact shaP_len _) | (rw [dg_length]; exact macP_len _ _) | (rw [dg_length, dg_length, shaP_len]; rfl) | (rw [dg_length, dg_length, macP_len]; rfl) | (rw [dg_length, dg_length, hDD]; rfl) | (simp [dg_length, zd_length, *]; done)))) ?_
    refine LQ_wv rfl rfl rfl rfl rfl rfl (V_loadW 1 rfl rfl rfl Tryd.underlying26 rfl (szd sz26o (by first | (rw [dg_length]; exact shaP_len _) | (rw [dg_length]; exact macP_len _ _) | (rw [dg_length, dg_length, shaP_len]; rfl) | (rw [dg_length, dg_length, macP_len]; rfl) | (rw [dg_length, dg_length, hDD]; rfl) | (simp [dg_length, zd_length, *]; done)))) ?_
    refine LQ_wv rfl rfl rfl rfl rfl rfl (V_eqD rfl rfl rfl egD Tryd.underlying26 Tryd.underlying5 sz5o (by first | exact shaP_len _ | exact macP_len _ _ | assumption | rfl | (simp [*]; done)) (by first | exact shaP_len _ | exact macP_len _ _ | assumption | rfl | (simp [*]; done)) rfl) ?_
    refine LQ_wv rfl rfl rfl rfl rfl rfl (V_eqB rfl rfl rfl Tryd.underlying4 (beq_self_eq_true _)) ?_
    first | refine LQ_v rfl rfl rfl (V_pickT rfl rfl rfl) ?_ | refine LQ_v rfl rfl rfl (V_pickF rfl rfl rfl) ?_
    refine LQ_v rfl rfl rfl (V_move rfl rfl) ?_
    refine LQ_wv rfl rfl rfl rfl rfl rfl (V_loadW 0 rfl rfl rfl Tryd.underlying26 rfl (szd sz26o (by first | (rw [dg_length]; exact shaP_len _) | (rw [dg_length]; exact macP_len _ _) | (rw [dg_length, dg_length, shaP_len]; rfl) | (rw [dg_length, dg_length, macP_len]; rfl) | (rw [dg_length, dg_length, hDD]; rfl) | (simp [dg_length, zd_length, *]; done)))) ?_
    refine LQ_wv rfl rfl rfl rfl rfl rfl (V_loadW 2 rfl rfl rfl Tryd.underlying26 rfl (szd sz26o (by first | (rw [dg_length]; exact shaP_len _) | (rw [dg_length]; exact macP_len _ _) | (rw [dg_length, dg_length, shaP_len]; rfl) | (rw [dg_length, dg_length, macP_len]; rfl) | (rw [dg_length, dg_length, hDD]; rfl) | (simp [dg_length, zd_length, *]; done)))) ?_
    refine LQ_wcallV rfl rfl rfl rfl rfl rfl rfl rfl rfl tx13o (fun w1 hw => dsame_w x x w1 hx hx bx bx) ?_
    refine LQ_wv rfl rfl rfl rfl rfl rfl (V_loadW 0 rfl rfl rfl Tryd.underlying26 rfl (szd sz26o (by first | (rw [dg_length]; exact shaP_len _) | (rw [dg_length]; exact macP_len _ _) | (rw [dg_length, dg_length, shaP_len]; rfl) | (rw [dg_length, dg_length, macP_len]; rfl) | (rw [dg_length, dg_length, hDD]; rfl) | (simp [dg_length, zd_length, *]; done)))) ?_
    refine LQ_wv rfl rfl rfl rfl rfl rfl (V_loadW 2 rfl rfl rfl Tryd.underlying26 rfl (szd sz26o (by first | (rw [dg_length]; exact shaP_len _) | (rw [dg_length]; exact macP_len _ _) | (rw [dg_length, dg_length, shaP_len]; rfl) | (rw [dg_length, dg_length, macP_len]; rfl) | (rw [dg_length, dg_length, hDD]; rfl) | (simp [dg_length, zd_length, *]; done)))) ?_
    refine LQ_wv rfl rfl rfl rfl rfl rfl (V_eqD rfl rfl rfl egD Tryd.underlying26 Tryd.underlying5 sz5o (by first | exact shaP_len _ | exact macP_len _ _ | assumption | rfl | (simp [*]; done)) (by first | exact shaP_len _ | exact macP_len _ _ | assumption | rfl | (simp [*]; done)) rfl) ?_
    refine LQ_wv rfl rfl rfl rfl rfl rfl (V_eqB rfl rfl rfl Tryd.underlying4 (beq_self_eq_true _)) ?_
    first | refine LQ_v rfl rfl rfl (V_pickT rfl rfl rfl) ?_ | refine LQ_v rfl rfl rfl (V_pickF rfl rfl rfl) ?_
    refine LQ_v rfl rfl rfl (V_assign rfl rfl) ?_
    refine LQ_nil ?_
    change J _ _ _ _
    refine J_ret ?_
    change Kret _ _ _ Exit.ret _
    refine ret1 rfl rfl (RV_t rfl) ?_
    exact fun w' h => ⟨rfl, h.fr⟩
  ·
    first | (have h1 := h1; rw [decide_eq_true_eq] at h1) | (have h1 := h1; rw [decide_eq_false_iff_not] at h1) | skip
    refine L_skip rfl rfl rfl rfl rfl rfl rfl ?_
    refine L_skip rfl rfl rfl rfl rfl rfl rfl ?_
    first | refine L_v rfl rfl rfl (V_pickT rfl rfl rfl) ?_ | refine L_v rfl rfl rfl (V_pickF rfl rfl rfl) ?_
    refine L_nil ?_
    change J _ _ _ _
    refine J_false rfl ?_
    refine J_skip ?_
    change J _ _ _ _
    refine J_seq ?_
    refine J_regionQ rfl (by kernel_rfl) ?_
    refine LQ_callV rfl rfl rfl rfl rfl rfl tx8o (fun w1 hw => macs_w w1 (TabK.later hw (by simp) hK)) ?_
    refine LQ_v rfl rfl rfl (V_move rfl rfl) ?_
    refine LQ_wv rfl rfl rfl rfl rfl rfl (V_loadW 0 rfl rfl rfl Tryd.underlying26 rfl (szd sz26o (by first | (rw [dg_length]; exact shaP_len _) | (rw [dg_length]; exact macP_len _ _) | (rw [dg_length, dg_length, shaP_len]; rfl) | (rw [dg_length, dg_length, macP_len]; rfl) | (rw [dg_length, dg_length, hDD]; rfl) | (simp [dg_length, zd_length, *]; done)))) ?_
    refine LQ_wv rfl rfl rfl rfl rfl rfl (V_loadW 1 rfl rfl rfl Tryd.underlying26 rfl (szd sz26o (by first | (rw [dg_length]; exact shaP_len _) | (rw [dg_length]; exact macP_len _ _) | (rw [dg_length, dg_length, shaP_len]; rfl) | (rw [dg_length, dg_length, macP_len]; rfl) | (rw [dg_length, dg_length, hDD]; rfl) | (simp [dg_length, zd_length, *]; done)))) ?_
    refine LQ_wcallV rfl rfl rfl rfl rfl rfl rfl rfl rfl tx13o (fun w1 hw => dsame_w x y w1 hx hy bx by2) ?_
    refine LQ_wv rfl rfl rfl rfl rfl rfl (V_loadW 0 rfl rfl rfl Tryd.underlying26 rfl (szd sz26o (by first | (rw [dg_length]; exact shaP_len _) | (rw [dg_length]; exact macP_len _ _) | (rw [dg_length, dg_length, shaP_len]; rfl) | (rw [dg_length, dg_length, macP_len]; rfl) | (rw [dg_length, dg_length, hDD]; rfl) | (simp [dg_length, zd_length, *]; done)))) ?_
    refine LQ_wv rfl rfl rfl rfl rfl rfl (V_loadW 1 rfl rfl rfl Tryd.underlying26 rfl (szd sz26o (by first | (rw [dg_length]; exact shaP_len _) | (rw [dg_length]; exact macP_len _ _) | (rw [dg_length, dg_length, shaP_len]; rfl) | (rw [dg_length, dg_length, macP_len]; rfl) | (rw [dg_length, dg_length, hDD]; rfl) | (simp [dg_length, zd_length, *]; done)))) ?_
    refine LQ_wv rfl rfl rfl rfl rfl rfl (V_eqD rfl rfl rfl egD Tryd.underlying26 Tryd.underlying5 sz5o (by first | exact shaP_len _ | exact macP_len _ _ | assumption | rfl | (simp [*]; done)) (by first | exact shaP_len _ | exact macP_len _ _ | assumption | rfl | (simp [*]; done)) rfl) ?_
    refine LQ_wv rfl rfl rfl rfl rfl rfl (V_eqB rfl rfl rfl Tryd.underlying4 (beq_self_eq_true _)) ?_
    first | refine LQ_v rfl rfl rfl (V_pickT rfl rfl rfl) ?_ | refine LQ_v rfl rfl rfl (V_pickF rfl rfl rfl) ?_
    refine LQ_v rfl rfl rfl (V_move rfl rfl) ?_
    refine LQ_wv rfl rfl rfl rfl rfl rfl (V_loadW 0 rfl rfl rfl Tryd.underlying26 rfl (szd sz26o (by first | (rw [dg_length]; exact shaP_len _) | (rw [dg_length]; exact macP_len _ _) | (rw [dg_length, dg_length, shaP_len]; rfl) | (rw [dg_length, dg_length, macP_len]; rfl) | (rw [dg_length, dg_length, hDD]; rfl) | (simp [dg_length, zd_length, *]; done)))) ?_
    refine LQ_wv rfl rfl rfl rfl rfl rfl (V_loadW 2 rfl rfl rfl Tryd.underlying26 rfl (szd sz26o (by first | (rw [dg_length]; exact shaP_len _) | (rw [dg_length]; exact macP_len _ _) | (rw [dg_length, dg_length, shaP_len]; rfl) | (rw [dg_length, dg_length, macP_len]; rfl) | (rw [dg_length, dg_length, hDD]; rfl) | (simp [dg_length, zd_length, *]; done)))) ?_
    refine LQ_wcallV rfl rfl rfl rfl rfl rfl rfl rfl rfl tx13o (fun w1 hw => dsame_w x x w1 hx hx bx bx) ?_
    refine LQ_wv rfl rfl rfl rfl rfl rfl (V_loadW 0 rfl rfl rfl Tryd.underlying26 rfl (szd sz26o (by first | (rw [dg_length]; exact shaP_len _) | (rw [dg_length]; exact macP_len _ _) | (rw [dg_length, dg_length, shaP_len]; rfl) | (rw [dg_length, dg_length, macP_len]; rfl) | (rw [dg_length, dg_length, hDD]; rfl) | (simp [dg_length, zd_length, *]; done)))) ?_
    refine LQ_wv rfl rfl rfl rfl rfl rfl (V_loadW 2 rfl rfl rfl Tryd.underlying26 rfl (szd sz26o (by first | (rw [dg_length]; exact shaP_len _) | (rw [dg_length]; exact macP_len _ _) | (rw [dg_length, dg_length, shaP_len]; rfl) | (rw [dg_length, dg_length, macP_len]; rfl) | (rw [dg_length, dg_length, hDD]; rfl) | (simp [dg_length, zd_length, *]; done)))) ?_
    refine LQ_wv rfl rfl rfl rfl rfl rfl (V_eqD rfl rfl rfl egD Tryd.underlying26 Tryd.underlying5 sz5o (by first | exact shaP_len _ | exact macP_len _ _ | assumption | rfl | (simp [*]; done)) (by first | exact shaP_len _ | exact macP_len _ _ | assumption | rfl | (simp [*]; done)) rfl) ?_
    refine LQ_wv rfl rfl rfl rfl rfl rfl (V_eqB rfl rfl rfl Tryd.underlying4 (beq_self_eq_true _)) ?_
    first | refine LQ_v rfl rfl rfl (V_pickT rfl rfl rfl) ?_ | refine LQ_v rfl rfl rfl (V_pickF rfl rfl rfl) ?_
    refine LQ_v rfl rfl rfl (V_assign rfl rfl) ?_
    refine LQ_nil ?_
    change J _ _ _ _
    refine J_ret ?_
    change Kret _ _ _ Exit.ret _
    refine ret1 rfl rfl (RV_t rfl) ?_
    exact fun w' h => ⟨rfl, h.fr⟩

theorem MacSame_w (x y : List Int) (at_ by_ : Int) (w : World) (hx : x.length = 32) (hy : y.length = 32) (bx : Byt x) (by2 : Byt y) (hK : TabK KT 0 w)  :
    Calls Tryd.prog 5 #[.agg (dg x).toArray, .agg (dg y).toArray, .int .i64 at_, .int .u8 by_] w fun e w' => e = .returned (.bool true) ∧ Fr [] w w' := by
  by_cases hat : 0 ≤ at_ ∧ at_ < 32
  · exact MacSame_t x y at_ by_ w hx hy bx by2 hat hK
  · exact MacSame_f x y at_ by_ w hx hy bx by2 hat hK
end Go.Proofs.YtimcondlcknbbaaDoor
