/- What the statements of layer 7 try first. -/
import Derived.Test.YthafhiemecfjiaaVersion3
set_option linter.unusedVariables false
set_option linter.unusedSimpArgs false
set_option maxRecDepth 100000
namespace Go.Proofs.Ythafhiemecfjiaa
open Go.Sx
def pP : Ver := (1, 1, ⟨#[107]⟩)
def pR : Ver := (2, 2, ⟨#[108]⟩)
def pV : Ver := (2, 3, ⟨#[]⟩)
theorem bdP (w : World) : (Instr.build 33 [(0, .int .i64 1), (1, .int .i64 1), (2, .string ⟨#[107]⟩)].toArray).run Try.prog w = .ok (.agg (vc pP).toArray) w := by kernel_rfl
theorem bdR (w : World) : (Instr.build 33 [(0, .int .i64 2), (1, .int .i64 2), (2, .string ⟨#[108]⟩)].toArray).run Try.prog w = .ok (.agg (vc pR).toArray) w := by kernel_rfl
theorem bdX (w : World) : (Instr.build 33 [(0, .int .i64 2), (1, .int .i64 3)].toArray).run Try.prog w = .ok (.agg (vc pV).toArray) w := by kernel_rfl
theorem bs2 (v u : Ver) (w : World) : (Instr.buildSlice 22 2 [(0, .agg (vc v).toArray), (1, .agg (vc u).toArray)].toArray).run Try.prog w = .ok (.slice (some ⟨w.heap.size, 0, none⟩) 2 2) (w.alloc (row 33 (vcs [v, u]))) := by kernel_rfl
theorem bs1 (v : Ver) (w : World) : (Instr.buildSlice 22 1 [(0, .agg (vc v).toArray)].toArray).run Try.prog w = .ok (.slice (some ⟨w.heap.size, 0, none⟩) 1 1) (w.alloc (row 33 (vcs [v]))) := by kernel_rfl
theorem act1 : actV [pP, pR] = (⟨#[108]⟩, true) := by kernel_rfl
theorem act2 : actV [pP, pV] = (⟨#[]⟩, false) := by kernel_rfl
theorem his1 : isH [pP, pR] = true := by kernel_rfl
theorem his2 : isH [pR] = false := by kernel_rfl
theorem nx1 : nextE [] pP = 0 := by kernel_rfl
theorem nx2 : nextE [] pR = 52 := by kernel_rfl
theorem nx3 : nextE [pP] pP = 51 := by kernel_rfl
theorem at1e : atV [pP, pR] 1 = [pP] := by kernel_rfl
section
variable (a : Option Addr) (n c : Nat) (l : List Ver) (w : World) (hl : l.length = n) (hu : SlC 3 w (.slice a n c) n (vcs l)) (hn : n ≤ 1048576) (hcn : n ≤ c)
include hl hu hn hcn
theorem check_f (h : isH l = false) : Calls Try.prog 10 #[.slice a n c] w fun e w' => e = .returned (.int .i64 50) ∧ Fr [] w w' := by
  have := check_w a n c l w hl hu hn hcn
  rwa [if_neg (by rw [h]; decide)] at this
theorem active_b {k : ByteArray} {b : Bool} (h : actV l = (k, b)) : Calls Try.prog 11 #[.slice a n c] w fun e w' => e = .returned (.tuple #[.string k, .bool b]) ∧ Fr [] w w' := by
  have := active_w a n c l w hl hu hn hcn
  rwa [h] at this
theorem next_b (v : Ver) {x : Int} (h : nextE l v = x) (hx : x ≠ 0) : Calls Try.prog 16 #[.slice a n c, .agg (vc v).toArray] w fun e w' => e = .returned (.tuple #[.slice none 0 0, .int .i64 x]) ∧ Fr [] w w' := by
  subst h
  exact next_no a n c l w hl hu hn hcn v hx
theorem next_w (v : Ver) : Calls Try.prog 16 #[.slice a n c, .agg (vc v).toArray] w (RetO 33 3 w (vcs (nextL l v)) (nextL l v).length (fun s => .tuple #[s, .int .i64 (nextE l v)])) := by
  by_cases h : nextE l v = 0
  · have h1 := next_ok a n c l w hl hu hn hcn v h
    rw [nextL_ok h, h, List.length_append, hl]
    exact h1
  · rw [nextL_no h]
    refine (next_no a n c l w hl hu hn hcn v h).mono fun e w' he => ?_
    exact ⟨none, he.1, ⟨rfl, rfl⟩, he.2, fun b o hb => by simp [ownM] at hb⟩
end
theorem own_o (a : Option Addr) (n c : Nat) (l : List Ver) (w : World) (hl : l.length = n) (hu : SlC 3 w (.slice a n c) n (vcs l)) (hn : n ≤ 1048576) : Calls Try.prog 9 #[.slice a n c] w (RetO 33 3 w (vcs l) n id) := own_w a n c l w hl hu hn
theorem same_t (a a2 : Option Addr) (n c n2 c2 : Nat) (l l2 : List Ver) (w : World) (hl : l.length = n) (hu : SlC 3 w (.slice a n c) n (vcs l)) (hl2 : l2.length = n2) (hu2 : SlC 3 w (.slice a2 n2 c2) n2 (vcs l2)) (hn : n ≤ 1048577) (hn2 : n2 ≤ 1048577) (h : l = l2) : Calls Try.prog 15 #[.slice a n c, .slice a2 n2 c2] w fun e w' => e = .returned (.bool true) ∧ Fr [] w w' := by
  have := same_w a a2 n c n2 c2 l l2 w hl hu hl2 hu2 hn hn2
  rwa [decide_eq_true h] at this
theorem sz33y : (Try.prog.info? 33).map (·.size) = some 3 := by kernel_rfl
theorem tx10y : Txt Try.prog 10 := txt_of Try.func10 rfl (by kernel_rfl)
theorem tx11y : Txt Try.prog 11 := txt_of Try.func11 rfl (by kernel_rfl)
theorem tx16y : Txt Try.prog 16 := txt_of Try.func16 rfl (by kernel_rfl)
theorem tx21y : Txt Try.prog 21 := txt_of Try.func21 rfl (by kernel_rfl)
theorem tx22y : Txt Try.prog 22 := txt_of Try.func22 rfl (by kernel_rfl)
theorem tx30y : Txt Try.prog 30 := txt_of Try.func30 rfl (by kernel_rfl)
theorem z33y : (Try.prog.info? 33).bind (·.zero) = some (.agg (vc v0).toArray) := by kernel_rfl

theorem put_w (w : World) :
    Calls Try.prog 21 #[] w fun e w' => e = .returned (.agg (vc pP).toArray) ∧ Fr [] w w' := by
  refine calls_of (args := []) ([]) ([]) ([]) Try.func21 rfl rfl (okW0 _ _ _ _) ?_
  refine J_seq ?_
  refine J_region ?_
  refine L_alloc rfl rfl rfl rfl z33y (fun b0 => ?_)
  refine L_nil ?_
  change J _ _ _ _
  refine J_seq ?_
  refine J_region ?_
  refine L_v rfl rfl rfl (V_build (vs := [(0, .int .i64 1), (1, .int .i64 1), (2, .string ⟨#[107]⟩)]) rfl rfl bdP) ?_
  refine L_storeW 0 rfl rfl rfl rfl rfl rfl (szd sz33y (by first | rfl | (simp [dg_length, zd_length, *]; done))) (vc_one _) (by first | rfl | (simp [dg_length, zd_length, *]; done)) ?_
  refine L_nil ?_
  change J _ _ _ _
  refine J_ret ?_
  change Kret _ _ _ Exit.ret _
  refine ret1 rfl rfl (RV_c 0 rfl rfl Try.underlying33 rfl (szd sz33y (by first | rfl | (simp [dg_length, zd_length, *]; done)))) ?_
  exact fun w' h => ⟨rfl, h.fr⟩

theorem rotate_w (w : World) :
    Calls Try.prog 22 #[] w fun e w' => e = .returned (.agg (vc pR).toArray) ∧ Fr [] w w' := by
  refine calls_of (args := []) ([]) ([]) ([]) Try.func22 rfl rfl (okW0 _ _ _ _) ?_
  refine J_seq ?_
  refine J_region ?_
  refine L_alloc rfl rfl rfl rfl z33y (fun b0 => ?_)
  refine L_nil ?_
  change J _ _ _ _
  refine J_seq ?_
  refine J_region ?_
  refine L_v rfl rfl rfl (V_build (vs := [(0, .int .i64 2), (1, .int .i64 2), (2, .string ⟨#[108]⟩)]) rfl rfl bdR) ?_
  refine L_storeW 0 rfl rfl rfl rfl rfl rfl (szd sz33y (by first | rfl | (simp [dg_length, zd_length, *]; done))) (vc_one _) (by first | rfl | (simp [dg_length, zd_length, *]; done)) ?_
  refine L_nil ?_
  change J _ _ _ _
  refine J_ret ?_
  change Kret _ _ _ Exit.ret _
  refine ret1 rfl rfl (RV_c 0 rfl rfl Try.underlying33 rfl (szd sz33y (by first | rfl | (simp [dg_length, zd_length, *]; done)))) ?_
  exact fun w' h => ⟨rfl, h.fr⟩

theorem revoke_w (w : World) :
    Calls Try.prog 30 #[] w fun e w' => e = .returned (.agg (vc pV).toArray) ∧ Fr [] w w' := by
  refine calls_of (args := []) ([]) ([]) ([]) Try.func30 rfl rfl (okW0 _ _ _ _) ?_
  refine J_seq ?_
  refine J_region ?_
  refine L_alloc rfl rfl rfl rfl z33y (fun b0 => ?_)
  refine L_nil ?_
  change J _ _ _ _
  refine J_seq ?_
  refine J_region ?_
  refine L_v rfl rfl rfl (V_build (vs := [(0, .int .i64 2), (1, .int .i64 3)]) rfl rfl bdX) ?_
  refine L_storeW 0 rfl rfl rfl rfl rfl rfl (szd sz33y (by first | rfl | (simp [dg_length, zd_length, *]; done))) (vc_one _) (by first | rfl | (simp [dg_length, zd_length, *]; done)) ?_
  refine L_nil ?_
  change J _ _ _ _
  refine J_ret ?_
  change Kret _ _ _ Exit.ret _
  refine ret1 rfl rfl (RV_c 0 rfl rfl Try.underlying33 rfl (szd sz33y (by first | rfl | (simp [dg_length, zd_length, *]; done)))) ?_
  exact fun w' h => ⟨rfl, h.fr⟩

theorem histories_w (w : World) :
    Calls Try.prog 13 #[] w fun e w' => e = .returned (.bool true) ∧ Fr [] w w' := by
  refine calls_of (args := []) ([]) ([]) ([]) Try.func13 rfl rfl (okW0 _ _ _ _) ?_
  refine J_seq ?_
  refine J_region ?_
  refine L_v rfl rfl rfl (V_assign rfl rfl) ?_
  refine L_nil ?_
  change J _ _ _ _
  refine J_seq ?_
  refine J_region ?_
  refine L_callV rfl rfl rfl rfl rfl rfl tx21y (fun w _ => put_w w) ?_
  refine L_callV rfl rfl rfl rfl rfl rfl tx22y (fun w _ => rotate_w w) ?_
  refine L_buildSlice (vs := [(0, .agg (vc pP).toArray), (1, .agg (vc pR).toArray)]) (l := vcs [pP, pR]) rfl rfl rfl rfl rfl (bs2 _ _) (fun b0 => ?_)
  refine L_v rfl rfl rfl (V_assign rfl rfl) ?_
  refine L_nil ?_
  change J _ _ _ _
  refine J_seq ?_
  refine J_region ?_
  refine L_v rfl rfl rfl (V_move rfl rfl) ?_
  refine L_callV rfl rfl rfl rfl rfl rfl tx11y (fun w hw => active_b (some ⟨b0, 0, none⟩) 2 2 _ w rfl (SlC.of_own hw (i := 0) (ks := vcs [pP, pR]) (r := []) rfl rfl 2) (by omega) (Nat.le_refl 2) act1) ?_
  refine L_v rfl rfl rfl (V_move rfl rfl) ?_
  refine L_v rfl rfl rfl (V_extract rfl rfl rfl) ?_
  refine L_v rfl rfl rfl (V_extract rfl rfl rfl) ?_
  refine L_v rfl rfl rfl (V_assign rfl rfl) ?_
  refine L_v rfl rfl rfl (V_assign rfl rfl) ?_
  refine L_nil ?_
  change J _ _ _ _
  refine J_seq ?_
  refine J_region ?_
  refine L_callV rfl rfl rfl rfl rfl rfl tx21y (fun w _ => put_w w) ?_
  refine L_callV rfl rfl rfl rfl rfl rfl tx30y (fun w _ => revoke_w w) ?_
  refine L_buildSlice (vs := [(0, .agg (vc pP).toArray), (1, .agg (vc pV).toArray)]) (l := vcs [pP, pV]) rfl rfl rfl rfl rfl (bs2 _ _) (fun b1 => ?_)
  refine L_callV rfl rfl rfl rfl rfl rfl tx11y (fun w hw => active_b (some ⟨b1, 0, none⟩) 2 2 _ w rfl (SlC.of_own hw (i := 1) (ks := vcs [pP, pV]) (r := []) rfl rfl 2) (by omega) (Nat.le_refl 2) act2) ?_
  refine L_v rfl rfl rfl (V_move rfl rfl) ?_
  refine L_v rfl rfl rfl (V_extract rfl rfl rfl) ?_
  refine L_v rfl rfl rfl (V_extract rfl rfl rfl) ?_
  refine L_v rfl rfl rfl (V_assign rfl rfl) ?_
  refine L_v rfl rfl rfl (V_assign rfl rfl) ?_
  refine L_nil ?_
  change J _ _ _ _
  refine J_seq ?_
  refine J_region ?_
  refine L_v rfl rfl rfl (V_move rfl rfl) ?_
  refine L_callV rfl rfl rfl rfl rfl rfl tx10y (fun w hw => check_t (some ⟨b0, 0, none⟩) 2 2 _ w rfl (SlC.of_own hw (i := 0) (ks := vcs [pP, pR]) (r := []) rfl rfl 2) (by omega) (Nat.le_refl 2) his1) ?_
  refine L_v rfl rfl rfl (V_eql rfl rfl rfl (by first | exact decide_eq_true (by omega) | exact decide_eq_false (by omega) | rfl)) ?_
  refine L_v rfl rfl rfl (V_move rfl rfl) ?_
  refine L_wcallV rfl rfl rfl rfl rfl rfl rfl rfl rfl tx22y (fun w _ => rotate_w w) ?_
  refine L_want rfl rfl rfl rfl (S_buildSlice (vs := [(0, .agg (vc pR).toArray)]) (l := vcs [pR]) rfl rfl rfl rfl (bs1 _) (fun b2 => ?_))
  refine L_wcallV rfl rfl rfl rfl rfl rfl rfl rfl rfl tx10y (fun w hw => check_f (some ⟨b2, 0, none⟩) 1 1 _ w rfl (SlC.of_own hw (i := 2) (ks := vcs [pR]) (r := []) rfl rfl 1) (by omega) (Nat.le_refl 1) his2) ?_
  refine L_wv rfl rfl rfl rfl rfl rfl (V_eql rfl rfl rfl (by first | exact decide_eq_true (by omega) | exact decide_eq_false (by omega) | rfl)) ?_
  first | refine L_v rfl rfl rfl (V_pickT rfl rfl rfl) ?_ | refine L_v rfl rfl rfl (V_pickF rfl rfl rfl) ?_
  refine L_v rfl rfl rfl (V_move rfl rfl) ?_
  refine L_wv rfl rfl rfl rfl rfl rfl (V_move rfl rfl) ?_
  first | refine L_v rfl rfl rfl (V_pickT rfl rfl rfl) ?_ | refine L_v rfl rfl rfl (V_pickF rfl rfl rfl) ?_
  refine L_v rfl rfl rfl (V_move rfl rfl) ?_
  refine L_wv rfl rfl rfl rfl rfl rfl (V_move rfl rfl) ?_
  refine L_wv rfl rfl rfl rfl rfl rfl (V_eqS rfl rfl rfl (decide_eq_true rfl)) ?_
  first | refine L_v rfl rfl rfl (V_pickT rfl rfl rfl) ?_ | refine L_v rfl rfl rfl (V_pickF rfl rfl rfl) ?_
  refine L_v rfl rfl rfl (V_move rfl rfl) ?_
  refine L_wv rfl rfl rfl rfl rfl rfl (V_move rfl rfl) ?_
  refine L_wv rfl rfl rfl rfl rfl rfl (V_not rfl rfl rfl) ?_
  first | refine L_v rfl rfl rfl (V_pickT rfl rfl rfl) ?_ | refine L_v rfl rfl rfl (V_pickF rfl rfl rfl) ?_
  refine L_v rfl rfl rfl (V_assign rfl rfl) ?_
  refine L_nil ?_
  change J _ _ _ _
  refine J_ret ?_
  change Kret _ _ _ Exit.ret _
  refine ret1 rfl rfl (RV_t rfl) ?_
  exact fun w' h => ⟨rfl, h.fr⟩

theorem nexts_w (w : World) :
    Calls Try.prog 18 #[] w fun e w' => e = .returned (.bool true) ∧ Fr [] w w' := by
  refine calls_of (args := []) ([]) ([]) ([]) Try.func18 rfl rfl (okW0 _ _ _ _) ?_
  refine J_seq ?_
  refine J_region ?_
  refine L_v rfl rfl rfl (V_assign rfl rfl) ?_
  refine L_nil ?_
  change J _ _ _ _
  refine J_seq ?_
  refine J_region ?_
  refine L_callV rfl rfl rfl rfl rfl rfl tx21y (fun w _ => put_w w) ?_
  refine L_callO rfl rfl rfl rfl rfl rfl tx16y (fun w hw => next_ok none 0 0 [] w rfl (.inl ⟨rfl, rfl, none, 0, rfl⟩) (by omega) (Nat.le_refl 0) pP nx1) (fun q1 hq1 => ?_)
  obtain ⟨g1, c1, r1, rfl, hk1, hc1, hr1⟩ := hq1.forms (by omega)
  refine L_v rfl rfl rfl (V_move rfl rfl) ?_
  refine L_v rfl rfl rfl (V_extract rfl rfl rfl) ?_
  refine L_v rfl rfl rfl (V_extract rfl rfl rfl) ?_
  refine L_v rfl rfl rfl (V_assign rfl rfl) ?_
  refine L_v rfl rfl rfl (V_assign rfl rfl) ?_
  refine L_nil ?_
  change J _ _ _ _
  refine J_seq ?_
  refine J_region ?_
  refine L_callV rfl rfl rfl rfl rfl rfl tx22y (fun w _ => rotate_w w) ?_
  refine L_callV rfl rfl rfl rfl rfl rfl tx16y (fun w hw => next_b none 0 0 [] w rfl (.inl ⟨rfl, rfl, none, 0, rfl⟩) (by omega) (Nat.le_refl 0) pR nx2 (by decide)) ?_
  refine L_v rfl rfl rfl (V_move rfl rfl) ?_
  refine L_v rfl rfl rfl (V_extract rfl rfl rfl) ?_
  refine L_v rfl rfl rfl (V_extract rfl rfl rfl) ?_
  refine L_v rfl rfl rfl (V_assign rfl rfl) ?_
  refine L_v rfl rfl rfl (V_assign rfl rfl) ?_
  refine L_nil ?_
  change J _ _ _ _
  refine J_seq ?_
  refine J_region ?_
  refine L_v rfl rfl rfl (V_move rfl rfl) ?_
  refine L_callV rfl rfl rfl rfl rfl rfl tx21y (fun w _ => put_w w) ?_
  refine L_callV rfl rfl rfl rfl rfl rfl tx16y (fun w hw => next_b (some ⟨g1, 0, none⟩) 1 c1 [pP] w rfl (SlC.of_own hw (i := 0) (ks := vcs [pP]) (r := r1) rfl rfl c1) (by omega) hc1 pP nx3 (by decide)) ?_
  refine L_v rfl rfl rfl (V_move rfl rfl) ?_
  refine L_v rfl rfl rfl (V_extract rfl rfl rfl) ?_
  refine L_v rfl rfl rfl (V_extract rfl rfl rfl) ?_
  refine L_v rfl rfl rfl (V_assign rfl rfl) ?_
  refine L_v rfl rfl rfl (V_assign rfl rfl) ?_
  refine L_nil ?_
  change J _ _ _ _
  refine J_seq ?_
  refine J_region ?_
  refine L_v rfl rfl rfl (V_move rfl rfl) ?_
  refine L_v rfl rfl rfl (V_eql rfl rfl rfl (by first | exact decide_eq_true (by omega) | exact decide_eq_false (by omega) | rfl)) ?_
  refine L_v rfl rfl rfl (V_move rfl rfl) ?_
  refine L_wv rfl rfl rfl rfl rfl rfl (V_move rfl rfl) ?_
  refine L_wv rfl rfl rfl rfl rfl rfl (V_len rfl rfl Try.underlying22 rfl) ?_
  refine L_wv rfl rfl rfl rfl rfl rfl (V_eql rfl rfl rfl (by first | exact decide_eq_true (by omega) | exact decide_eq_false (by omega) | rfl)) ?_
  first | refine L_v rfl rfl rfl (V_pickT rfl rfl rfl) ?_ | refine L_v rfl rfl rfl (V_pickF rfl rfl rfl) ?_
  refine L_v rfl rfl rfl (V_move rfl rfl) ?_
  refine L_wv rfl rfl rfl rfl rfl rfl (V_move rfl rfl) ?_
  refine L_wv rfl rfl rfl rfl rfl rfl (V_eql rfl rfl rfl (by first | exact decide_eq_true (by omega) | exact decide_eq_false (by omega) | rfl)) ?_
  first | refine L_v rfl rfl rfl (V_pickT rfl rfl rfl) ?_ | refine L_v rfl rfl rfl (V_pickF rfl rfl rfl) ?_
  refine L_v rfl rfl rfl (V_move rfl rfl) ?_
  refine L_wv rfl rfl rfl rfl rfl rfl (V_move rfl rfl) ?_
  refine L_wv rfl rfl rfl rfl rfl rfl (V_eql rfl rfl rfl (by first | exact decide_eq_true (by omega) | exact decide_eq_false (by omega) | rfl)) ?_
  first | refine L_v rfl rfl rfl (V_pickT rfl rfl rfl) ?_ | refine L_v rfl rfl rfl (V_pickF rfl rfl rfl) ?_
  refine L_v rfl rfl rfl (V_assign rfl rfl) ?_
  refine L_nil ?_
  change J _ _ _ _
  refine J_ret ?_
  change Kret _ _ _ Exit.ret _
  refine ret1 rfl rfl (RV_t rfl) ?_
  exact fun w' h => ⟨rfl, h.fr⟩

end Go.Proofs.Ythafhiemecfjiaa
