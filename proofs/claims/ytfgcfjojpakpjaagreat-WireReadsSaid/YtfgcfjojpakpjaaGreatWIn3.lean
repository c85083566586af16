/- What layer 8 reads: lists. -/
import Derived.Test.YtfgcfjojpakpjaaGreatWIn2
set_option linter.unusedVariables false
set_option linter.unusedSimpArgs false
set_option maxRecDepth 100000
namespace Go.Proofs.YtfgcfjojpakpjaaGreat
open Go.Sx
theorem rnC_nn {l r : List Int} {x : Int} (hb : Byt l) (h : rnC l = some (x, r)) : 0 ≤ x ∧ x ≤ 2147483647 := by
  obtain ⟨M, h1, _⟩ := cC.back l x r hb h
  have h2 : encT (.c x) = .ok M := by
    have : encTs [.c x] = .ok M := h1
    rwa [encTs_one] at this
  simp only [encT] at h2
  split at h2
  · assumption
  · cases h2
theorem rnL_1 {α : Type} {cd : Cdc α} {l : List Int} (h : rnC l = none) : rnL cd l = none := by
  unfold rnL
  rw [h]
theorem rnL_2 {α : Type} {cd : Cdc α} {l r : List Int} {x : Int} (h : rnC l = some (x, r)) (hx : 4096 < x) : rnL cd l = none := by
  unfold rnL
  rw [h]
  exact if_neg (by omega)
theorem rnL_3 {α : Type} {cd : Cdc α} {l r : List Int} {N : Nat} (h : rnC l = some ((N : Int), r)) (hx : ¬ (4096 : Int) < N) : rnL cd l = rnN cd N r [] := by
  unfold rnL
  rw [h]
  exact (if_pos (by omega)).trans (by rw [Int.toNat_natCast])
theorem rnN_no {α : Type} {cd : Cdc α} {i N : Nat} {d l : List Int} {acc : List α} (hi : i < N) (h : cd.rn d = none) (hR : rnN cd (N - i) d acc = rnN cd N l []) : rnN cd N l [] = none := by
  rw [← hR, show N - i = (N - i - 1) + 1 by omega, rnN, h]
theorem rnN_go {α : Type} {cd : Cdc α} {i N : Nat} {d l r : List Int} {acc : List α} {x : α} (hi : i < N) (h : cd.rn d = some (x, r)) (hR : rnN cd (N - i) d acc = rnN cd N l []) : rnN cd (N - (i + 1)) r (acc ++ [x]) = rnN cd N l [] := by
  rw [← hR, show N - i = (N - (i + 1)) + 1 by omega, rnN, h]
theorem rnN_end {α : Type} {cd : Cdc α} {N : Nat} {d l : List Int} {acc : List α} (hR : rnN cd (N - N) d acc = rnN cd N l []) : rnN cd N l [] = some (acc, d) := by
  rw [← hR, Nat.sub_self]
  rfl
theorem ints_app (a : List Int) (x : Int) : ints a ++ ints [x] = ints (a ++ [x]) := by simp [ints]
theorem ints_one (a : List Int) : ∀ u ∈ ints a, u.oneCell' = true := by
  intro u hu
  obtain ⟨x, _, rfl⟩ := List.mem_map.1 hu
  rfl
theorem mapf_app {α : Type} (f : α → List Value) (a : List α) (x : α) : (a.map f).flatten ++ f x = ((a ++ [x]).map f).flatten := by simp
theorem eli : ElemOf Tryz.prog 3 1 8 (.int .i64 0) := elem_of (by kernel_rfl) rfl
theorem elV : ElemOf Tryz.prog 109 3 32 (.agg (vrV (0, 0, ⟨#[]⟩)).toArray) := elem_of (by kernel_rfl) (by kernel_rfl)
theorem bsV (x : Vr) (w : World) : (Instr.buildSlice 101 1 [(0, .agg (vrV x).toArray)].toArray).run Tryz.prog w = .ok (.slice (some ⟨w.heap.size, 0, none⟩) 1 1) (w.alloc (row 109 (vrV x))) := by kernel_rfl
theorem elH : ElemOf Tryz.prog 47 65 72 (.agg (hdV (0, dz, dz)).toArray) := elem_of (by kernel_rfl) (by kernel_rfl)
theorem bsH (x : Hd) (w : World) : (Instr.buildSlice 60 1 [(0, .agg (hdV x).toArray)].toArray).run Tryz.prog w = .ok (.slice (some ⟨w.heap.size, 0, none⟩) 1 1) (w.alloc (row 47 (hdV x))) := by kernel_rfl
theorem elS : ElemOf Tryz.prog 106 4 32 (.agg (seV (0, 0, 0, 0)).toArray) := elem_of (by kernel_rfl) (by kernel_rfl)
theorem bsS (x : Se) (w : World) : (Instr.buildSlice 61 1 [(0, .agg (seV x).toArray)].toArray).run Tryz.prog w = .ok (.slice (some ⟨w.heap.size, 0, none⟩) 1 1) (w.alloc (row 106 (seV x))) := by kernel_rfl
theorem tx61k : Txt Tryz.prog 61 := txt_of Tryz.func61 rfl (by kernel_rfl)

theorem many_i (rb ib : Nat) (u0 : Value) (l0 : List Int) (F : FuncId) (first cap : Array Value) (htx : Txt Tryz.prog F) (hone : Rds F (first ++ #[] ++ cap) cC.rn Vi rb ib u0 l0) (w : World) (a : Option Addr) (n c : Nat) (l : List Int) (hb : w.heap[rb]? = some (row 139 [.slice a n c])) (hfs : Fx [factB u0 l0, factO ib (inO rb)] w rb) (hD : ∀ W, SlB W u0 l0 → SlB W (.slice a n c) l) (hby : Byt l) (hcn : n ≤ c) (hl : l.length ≤ 1099511627776) :
    Calls Tryz.prog 107 #[.pointer (some ⟨ib, 0, none⟩), .func (.func F) first cap] w fun e w' => InP 139 157 w rb u0 l0 (rnL cC l) (VlI) e w' := by
  refine calls_of_p (args := [.pointer (some ⟨ib, 0, none⟩), .func (.func F) first cap]) ([rb]) ([rdM rb a n c]) ([factB u0 l0, factO ib (inO rb)]) Tryz.func107 rfl rfl (okM1 hb hfs) ?_
  refine J_seq ?_
  refine J_region ?_
  refine L_v rfl rfl rfl (V_assign rfl rfl) ?_
  refine L_nil ?_
  change J _ _ _ _
  refine J_seq ?_
  refine J_regionP ?_
  refine LP_one ?_
  refine L_v rfl rfl rfl (V_move rfl rfl) ?_
  refine L_nil ?_
  refine LP_in 0 rfl rfl rfl rfl rfl rfl tx61k rfl (fun w1 hw => in_n rb ib u0 l0 w1 _ _ _ _ (hw.at (i := 0) rfl) (fxIn hw rfl) hD hby hcn hl) (fun hk => KretP_panic rfl (fun w' h => InP.no (show rnL cC l = _ from rnL_1 hk) h.fr)) (fun p1 l1 v1 fs1 a1 n1 c1 hr1 hV1 hc1 hD1 hnw1 => ?_)
  obtain ⟨rfl, rfl⟩ := hV1
  have hby1 := Cdc.byt cC hby hr1
  have hl1 := Nat.le_trans (Cdc.short cC hby hr1) hl
  have h0p := rnC_nn hby hr1
  obtain ⟨N, rfl⟩ : ∃ N : Nat, p1 = N := ⟨p1.toNat, by omega⟩
  refine LP_one ?_
  refine L_v rfl rfl rfl (V_assign rfl rfl) ?_
  refine L_nil ?_
  refine LP_nil ?_
  change J _ _ _ _
  refine J_seq ?_
  refine J_seq ?_
  refine J_region ?_
  refine L_v rfl rfl rfl (V_move rfl rfl) ?_
  refine L_v rfl rfl rfl (V_gtr rfl rfl rfl (by first | exact decide_eq_true (by omega) | exact decide_eq_false (by omega) | rfl)) ?_
  refine L_nil ?_
  change J _ _ _ _
  refine J_cond rfl (fun h1 => ?_) (fun h1 => ?_)
  ·
    first | (have h1 := of_decide_eq_true h1) | (have h1 := of_decide_eq_false h1) | skip
    refine J_regionP ?_
    refine LP_one ?_
    refine L_v rfl rfl rfl (V_build (vs := [(0, .int .i64 60)]) rfl rfl (bdStop 60)) ?_
    refine L_nil ?_
    refine LP_one ?_
    refine L_v rfl rfl rfl (V_makeIface rfl rfl Tryz.underlying157 rfl) ?_
    refine L_nil ?_
    refine LP_panic rfl rfl rfl ?_
    change KretP _ _ _ (Exit.panic _) _
    refine KretP_panic rfl ?_
    exact fun w' h => InP.no (show rnL cC l = _ from rnL_2 hr1 h1) h.fr
  ·
    first | (have h1 := of_decide_eq_true h1) | (have h1 := of_decide_eq_false h1) | skip
    have hN : ¬ (4096 : Int) < N := h1
    refine J_skip ?_
    change J _ _ _ _
    refine J_seq ?_
    refine J_region ?_
    refine L_v rfl rfl rfl (V_assign rfl rfl) ?_
    refine L_nil ?_
    change J _ _ _ _
    refine J_seq ?_
    refine J_seq ?_
    refine J_region ?_
    refine L_v rfl rfl rfl (V_move rfl rfl) ?_
    refine L_v rfl rfl rfl (V_move rfl rfl) ?_
    refine L_nil ?_
    change J _ _ _ _
    refine J_block ?_
    refine J_loop (X := Nat × OwnR × List Int × (Option Addr × Nat × Nat) × List Int) (fun x => { env := [(0, .pointer (some ⟨ib, 0, none⟩)), (1, .func (.func F) first cap), (6, ownV x.2.1 x.1), (13, vi (N : Int)), (14, vi (x.1 : Int))], mem := rdM rb x.2.2.2.1.1 x.2.2.2.1.2.1 x.2.2.2.1.2.2 :: ownM 3 x.2.1 (ints x.2.2.1), facts := [factB u0 l0, factO ib (inO rb)] }) (fun x => x.1 ≤ N ∧ x.2.2.1.length = x.1 ∧ OwnC 1 x.2.1 x.1 (ints x.2.2.1) ∧ (∀ W, SlB W u0 l0 → SlB W (.slice x.2.2.2.1.1 x.2.2.2.1.2.1 x.2.2.2.1.2.2) x.2.2.2.2) ∧ Byt x.2.2.2.2 ∧ x.2.2.2.1.2.1 ≤ x.2.2.2.1.2.2 ∧ x.2.2.2.2.length ≤ 1099511627776 ∧ rnN cC (N - x.1) x.2.2.2.2 x.2.2.1 = rnN cC N l1 []) (fun x => N - x.1) (0, none, [], (a1, n1, c1), l1) ⟨Nat.zero_le _, rfl, ⟨rfl, rfl⟩, hD1, hby1, hc1, hl1, rfl⟩ ⟨⟨rfl, rfl, rfl, rfl, rfl, trivial⟩, List.Sublist.refl _, fun f hf => hf, rfl⟩ ?_
    rintro ⟨i, q, acc, ⟨a', n', c'⟩, l'⟩ ⟨hi, hal, hq, hD', hby', hc', hl', hR⟩
    simp only at hi hal hq hD' hby' hc' hl' hR ⊢
    refine J_seq ?_
    refine J_region ?_
    refine L_v rfl rfl rfl (V_lss rfl rfl rfl (by first | exact decide_eq_true (by omega) | exact decide_eq_false (by omega) | rfl)) ?_
    refine L_nil ?_
    change J _ _ _ _
    refine J_seq ?_
    refine J_cond rfl (fun h2 => ?_) (fun h2 => ?_)
    ·
      first | (have h2 := of_decide_eq_true h2) | (have h2 := of_decide_eq_false h2) | skip
      refine J_skip ?_
      change J _ _ _ _
      refine J_seq ?_
      refine J_block ?_
      refine J_regionP ?_
      refine LP_one ?_
      refine L_v rfl rfl rfl (V_move rfl rfl) ?_
      refine L_nil ?_
      refine LP_one ?_
      refine L_v rfl rfl rfl (V_move rfl rfl) ?_
      refine L_nil ?_
      refine LP_in 0 rfl rfl rfl rfl rfl rfl htx rfl (fun w1 hw => hone w1 _ _ _ _ (hw.at (i := 0) rfl) (fxIn hw rfl) hD' hby' hc' hl') (fun hk => KretP_panic rfl (fun w' h => InP.no (show rnL cC l = _ from (rnL_3 hr1 hN).trans (rnN_no (by omega) hk hR)) h.fr)) (fun x2 l2 v2 fs2 a2 n2 c2 hr2 hV2 hc2 hD2 hnw2 => ?_)
      obtain ⟨rfl, rfl⟩ := hV2
      have hby2 := Cdc.byt cC hby' hr2
      have hl2 := Nat.le_trans (Cdc.short cC hby' hr2) hl'
      refine LP_one ?_
      refine L_buildSlice (vs := [(0, vi x2)]) (l := ints [x2]) rfl rfl rfl rfl rfl (bsI1 _) (fun b9 => ?_)
      refine L_nil ?_
      refine LP_one ?_
      refine L_appN [rdM rb a2 n2 c2] [(b9, row 3 (ints [x2]))] q (ints acc) (n' := i + 1) (ks' := ints (acc ++ [x2])) rfl rfl rfl rfl rfl Tryz.underlying34 eli rfl hq (fun w1 hw => src_C Tryz.underlying34 (SlC.in hw (ks := ints [x2]) (r := []) (fz := (0, 0)) (List.mem_cons_of_mem _ (List.mem_append_right _ (by rw [List.append_nil]; exact List.mem_singleton.2 rfl))) rfl 1) (ints_one _)) rfl (ints_app acc x2) (by omega) (by omega) (fun q' hq' => ?_)
      refine L_nil ?_
      refine LP_one ?_
      refine L_v rfl rfl rfl (V_assign rfl rfl) ?_
      refine L_nil ?_
      refine LP_nil ?_
      change J _ _ _ _
      refine J_region ?_
      refine L_v rfl rfl rfl (V_add rfl rfl rfl (by first | exact Go.IntWalk.i64_in _ (by omega) | rfl)) ?_
      refine L_v rfl rfl rfl (V_move rfl rfl) ?_
      refine L_nil ?_
      exact ⟨(i + 1, q', acc ++ [x2], (a2, n2, c2), l2), ⟨by show i + 1 ≤ N; omega, by show (acc ++ [x2]).length = i + 1; simp [hal], hq', hD2, hby2, hc2, hl2, rnN_go (by omega) hr2 hR⟩, by show N - (i + 1) < N - i; omega, ⟨rfl, rfl, rfl, rfl, rfl, trivial⟩, List.Sublist.cons_cons _ (List.sublist_append_left _ _), fun f hf => hf, rfl⟩
    ·
      first | (have h2 := of_decide_eq_true h2) | (have h2 := of_decide_eq_false h2) | skip
      refine J_exit ?_
      change J _ _ _ _
      refine J_seq ?_
      refine J_region ?_
      refine L_v rfl rfl rfl (V_move rfl rfl) ?_
      refine L_v rfl rfl rfl (V_assign rfl rfl) ?_
      refine L_nil ?_
      change J _ _ _ _
      refine J_ret ?_
      change KretP _ _ _ Exit.ret _
      refine KretP_plain ?_
      refine ret1 rfl rfl (RV_t rfl) ?_
      obtain rfl : i = N := by omega
      have hfin := (rnL_3 hr1 hN).trans (rnN_end hR)
      exact fun w' h => InP.yes (show rnL cC l = _ from hfin) h.fr (show VlI acc (ownV q i) [factC 1 (ownV q i) i (ints acc)] from by subst hal; exact ⟨⟨_, _, rfl⟩, rfl⟩) (fun f hf => by obtain rfl := List.mem_singleton.1 hf; exact own_fact (T := 3) h rfl (fun x hx => hx) hq) (h.at (i := 0) rfl) hc' hD'

theorem many_v (rb ib : Nat) (u0 : Value) (l0 : List Int) (F : FuncId) (first cap : Array Value) (htx : Txt Tryz.prog F) (hone : Rds F (first ++ #[] ++ cap) vrC.rn (Va vrV) rb ib u0 l0) (w : World) (a : Option Addr) (n c : Nat) (l : List Int) (hb : w.heap[rb]? = some (row 139 [.slice a n c])) (hfs : Fx [factB u0 l0, factO ib (inO rb)] w rb) (hD : ∀ W, SlB W u0 l0 → SlB W (.slice a n c) l) (hby : Byt l) (hcn : n ≤ c) (hl : l.length ≤ 1099511627776) :
    Calls Tryz.prog 112 #[.pointer (some ⟨ib, 0, none⟩), .func (.func F) first cap] w fun e w' => InP 139 157 w rb u0 l0 (rnL vrC l) (Vl 3 vrV) e w' := by
  refine calls_of_p (args := [.pointer (some ⟨ib, 0, none⟩), .func (.func F) first cap]) ([rb]) ([rdM rb a n c]) ([factB u0 l0, factO ib (inO rb)]) Tryz.func112 rfl rfl (okM1 hb hfs) ?_
  refine J_seq ?_
  refine J_region ?_
  refine L_v rfl rfl rfl (V_assign rfl rfl) ?_
  refine L_nil ?_
  change J _ _ _ _
  refine J_seq ?_
  refine J_regionP ?_
  refine LP_one ?_
  refine L_v rfl rfl rfl (V_move rfl rfl) ?_
  refine L_nil ?_
  refine LP_in 0 rfl rfl rfl rfl rfl rfl tx61k rfl (fun w1 hw => in_n rb ib u0 l0 w1 _ _ _ _ (hw.at (i := 0) rfl) (fxIn hw rfl) hD hby hcn hl) (fun hk => KretP_panic rfl (fun w' h => InP.no (show rnL vrC l = _ from rnL_1 hk) h.fr)) (fun p1 l1 v1 fs1 a1 n1 c1 hr1 hV1 hc1 hD1 hnw1 => ?_)
  obtain ⟨rfl, rfl⟩ := hV1
  have hby1 := Cdc.byt cC hby hr1
  have hl1 := Nat.le_trans (Cdc.short cC hby hr1) hl
  have h0p := rnC_nn hby hr1
  obtain ⟨N, rfl⟩ : ∃ N : Nat, p1 = N := ⟨p1.toNat, by omega⟩
  refine LP_one ?_
  refine L_v rfl rfl rfl (V_assign rfl rfl) ?_
  refine L_nil ?_
  refine LP_nil ?_
  change J _ _ _ _
  refine J_seq ?_
  refine J_seq ?_
  refine J_region ?_
  refine L_v rfl rfl rfl (V_move rfl rfl) ?_
  refine L_v rfl rfl rfl (V_gtr rfl rfl rfl (by first | exact decide_eq_true (by omega) | exact decide_eq_false (by omega) | rfl)) ?_
  refine L_nil ?_
  change J _ _ _ _
  refine J_cond rfl (fun h1 => ?_) (fun h1 => ?_)
  ·
    first | (have h1 := of_decide_eq_true h1) | (have h1 := of_decide_eq_false h1) | skip
    refine J_regionP ?_
    refine LP_one ?_
    refine L_v rfl rfl rfl (V_build (vs := [(0, .int .i64 60)]) rfl rfl (bdStop 60)) ?_
    refine L_nil ?_
    refine LP_one ?_
    refine L_v rfl rfl rfl (V_makeIface rfl rfl Tryz.underlying157 rfl) ?_
    refine L_nil ?_
    refine LP_panic rfl rfl rfl ?_
    change KretP _ _ _ (Exit.panic _) _
    refine KretP_panic rfl ?_
    exact fun w' h => InP.no (show rnL vrC l = _ from rnL_2 hr1 h1) h.fr
  ·
    first | (have h1 := of_decide_eq_true h1) | (have h1 := of_decide_eq_false h1) | skip
    have hN : ¬ (4096 : Int) < N := h1
    refine J_skip ?_
    change J _ _ _ _
    refine J_seq ?_
    refine J_region ?_
    refine L_v rfl rfl rfl (V_assign rfl rfl) ?_
    refine L_nil ?_
    change J _ _ _ _
    refine J_seq ?_
    refine J_seq ?_
    refine J_region ?_
    refine L_v rfl rfl rfl (V_move rfl rfl) ?_
    refine L_v rfl rfl rfl (V_move rfl rfl) ?_
    refine L_nil ?_
    change J _ _ _ _
    refine J_block ?_
    refine J_loop (X := Nat × OwnR × List Vr × (Option Addr × Nat × Nat) × List Int) (fun x => { env := [(0, .pointer (some ⟨ib, 0, none⟩)), (1, .func (.func F) first cap), (6, ownV x.2.1 x.1), (13, vi (N : Int)), (14, vi (x.1 : Int))], mem := rdM rb x.2.2.2.1.1 x.2.2.2.1.2.1 x.2.2.2.1.2.2 :: ownM 109 x.2.1 ((x.2.2.1.map vrV).flatten), facts := [factB u0 l0, factO ib (inO rb)] }) (fun x => x.1 ≤ N ∧ x.2.2.1.length = x.1 ∧ OwnC 3 x.2.1 x.1 ((x.2.2.1.map vrV).flatten) ∧ (∀ W, SlB W u0 l0 → SlB W (.slice x.2.2.2.1.1 x.2.2.2.1.2.1 x.2.2.2.1.2.2) x.2.2.2.2) ∧ Byt x.2.2.2.2 ∧ x.2.2.2.1.2.1 ≤ x.2.2.2.1.2.2 ∧ x.2.2.2.2.length ≤ 1099511627776 ∧ rnN vrC (N - x.1) x.2.2.2.2 x.2.2.1 = rnN vrC N l1 []) (fun x => N - x.1) (0, none, [], (a1, n1, c1), l1) ⟨Nat.zero_le _, rfl, ⟨rfl, rfl⟩, hD1, hby1, hc1, hl1, rfl⟩ ⟨⟨rfl, rfl, rfl, rfl, rfl, trivial⟩, List.Sublist.refl _, fun f hf => hf, rfl⟩ ?_
    rintro ⟨i, q, acc, ⟨a', n', c'⟩, l'⟩ ⟨hi, hal, hq, hD', hby', hc', hl', hR⟩
    simp only at hi hal hq hD' hby' hc' hl' hR ⊢
    refine J_seq ?_
    refine J_region ?_
    refine L_v rfl rfl rfl (V_lss rfl rfl rfl (by first | exact decide_eq_true (by omega) | exact decide_eq_false (by omega) | rfl)) ?_
    refine L_nil ?_
    change J _ _ _ _
    refine J_seq ?_
    refine J_cond rfl (fun h2 => ?_) (fun h2 => ?_)
    ·
      first | (have h2 := of_decide_eq_true h2) | (have h2 := of_decide_eq_false h2) | skip
      refine J_skip ?_
      change J _ _ _ _
      refine J_seq ?_
      refine J_block ?_
      refine J_regionP ?_
      refine LP_one ?_
      refine L_v rfl rfl rfl (V_move rfl rfl) ?_
      refine L_nil ?_
      refine LP_one ?_
      refine L_v rfl rfl rfl (V_move rfl rfl) ?_
      refine L_nil ?_
      refine LP_in 0 rfl rfl rfl rfl rfl rfl htx rfl (fun w1 hw => hone w1 _ _ _ _ (hw.at (i := 0) rfl) (fxIn hw rfl) hD' hby' hc' hl') (fun hk => KretP_panic rfl (fun w' h => InP.no (show rnL vrC l = _ from (rnL_3 hr1 hN).trans (rnN_no (by omega) hk hR)) h.fr)) (fun x2 l2 v2 fs2 a2 n2 c2 hr2 hV2 hc2 hD2 hnw2 => ?_)
      obtain ⟨rfl, rfl⟩ := hV2
      have hby2 := Cdc.byt vrC hby' hr2
      have hl2 := Nat.le_trans (Cdc.short vrC hby' hr2) hl'
      refine LP_one ?_
      refine L_buildSlice (vs := [(0, .agg (vrV x2).toArray)]) (l := vrV x2) rfl rfl rfl rfl rfl (bsV x2) (fun b9 => ?_)
      refine L_nil ?_
      refine LP_one ?_
      refine L_appN [rdM rb a2 n2 c2] [(b9, row 109 (vrV x2))] q ((acc.map vrV).flatten) (n' := i + 1) (ks' := ((acc ++ [x2]).map vrV).flatten) rfl rfl rfl rfl rfl Tryz.underlying101 elV rfl hq (fun w1 hw => src_C Tryz.underlying101 (SlC.in hw (ks := vrV x2) (r := []) (fz := (0, 0)) (List.mem_cons_of_mem _ (List.mem_append_right _ (by rw [List.append_nil]; exact List.mem_singleton.2 rfl))) (show (vrV x2).length = 1 * 3 from rfl) 1) (all_one (by kernel_rfl))) rfl (mapf_app vrV acc x2) (by omega) (by omega) (fun q' hq' => ?_)
      refine L_nil ?_
      refine LP_one ?_
      refine L_v rfl rfl rfl (V_assign rfl rfl) ?_
      refine L_nil ?_
      refine LP_nil ?_
      change J _ _ _ _
      refine J_region ?_
      refine L_v rfl rfl rfl (V_add rfl rfl rfl (by first | exact Go.IntWalk.i64_in _ (by omega) | rfl)) ?_
      refine L_v rfl rfl rfl (V_move rfl rfl) ?_
      refine L_nil ?_
      exact ⟨(i + 1, q', acc ++ [x2], (a2, n2, c2), l2), ⟨by show i + 1 ≤ N; omega, by show (acc ++ [x2]).length = i + 1; simp [hal], hq', hD2, hby2, hc2, hl2, rnN_go (by omega) hr2 hR⟩, by show N - (i + 1) < N - i; omega, ⟨rfl, rfl, rfl, rfl, rfl, trivial⟩, List.Sublist.cons_cons _ (List.sublist_append_left _ _), fun f hf => hf, rfl⟩
    ·
      first | (have h2 := of_decide_eq_true h2) | (have h2 := of_decide_eq_false h2) | skip
      refine J_exit ?_
      change J _ _ _ _
      refine J_seq ?_
      refine J_region ?_
      refine L_v rfl rfl rfl (V_move rfl rfl) ?_
      refine L_v rfl rfl rfl (V_assign rfl rfl) ?_
      refine L_nil ?_
      change J _ _ _ _
      refine J_ret ?_
      change KretP _ _ _ Exit.ret _
      refine KretP_plain ?_
      refine ret1 rfl rfl (RV_t rfl) ?_
      obtain rfl : i = N := by omega
      have hfin := (rnL_3 hr1 hN).trans (rnN_end hR)
      exact fun w' h => InP.yes (show rnL vrC l = _ from hfin) h.fr (show Vl 3 vrV acc (ownV q i) [factC 3 (ownV q i) i ((acc.map vrV).flatten)] from by subst hal; exact ⟨⟨_, _, rfl⟩, rfl⟩) (fun f hf => by obtain rfl := List.mem_singleton.1 hf; exact own_fact (T := 109) h rfl (fun x hx => hx) hq) (h.at (i := 0) rfl) hc' hD'

theorem many_h (rb ib : Nat) (u0 : Value) (l0 : List Int) (F : FuncId) (first cap : Array Value) (htx : Txt Tryz.prog F) (hone : Rds F (first ++ #[] ++ cap) hdC.rn (Va hdV) rb ib u0 l0) (w : World) (a : Option Addr) (n c : Nat) (l : List Int) (hb : w.heap[rb]? = some (row 139 [.slice a n c])) (hfs : Fx [factB u0 l0, factO ib (inO rb)] w rb) (hD : ∀ W, SlB W u0 l0 → SlB W (.slice a n c) l) (hby : Byt l) (hcn : n ≤ c) (hl : l.length ≤ 1099511627776) :
    Calls Tryz.prog 84 #[.pointer (some ⟨ib, 0, none⟩), .func (.func F) first cap] w fun e w' => InP 139 157 w rb u0 l0 (rnL hdC l) (Vl 65 hdV) e w' := by
  refine calls_of_p (args := [.pointer (some ⟨ib, 0, none⟩), .func (.func F) first cap]) ([rb]) ([rdM rb a n c]) ([factB u0 l0, factO ib (inO rb)]) Tryz.func84 rfl rfl (okM1 hb hfs) ?_
  refine J_seq ?_
  refine J_region ?_
  refine L_v rfl rfl rfl (V_assign rfl rfl) ?_
  refine L_nil ?_
  change J _ _ _ _
  refine J_seq ?_
  refine J_regionP ?_
  refine LP_one ?_
  refine L_v rfl rfl rfl (V_move rfl rfl) ?_
  refine L_nil ?_
  refine LP_in 0 rfl rfl rfl rfl rfl rfl tx61k rfl (fun w1 hw => in_n rb ib u0 l0 w1 _ _ _ _ (hw.at (i := 0) rfl) (fxIn hw rfl) hD hby hcn hl) (fun hk => KretP_panic rfl (fun w' h => InP.no (show rnL hdC l = _ from rnL_1 hk) h.fr)) (fun p1 l1 v1 fs1 a1 n1 c1 hr1 hV1 hc1 hD1 hnw1 => ?_)
  obtain ⟨rfl, rfl⟩ := hV1
  have hby1 := Cdc.byt cC hby hr1
  have hl1 := Nat.le_trans (Cdc.short cC hby hr1) hl
  have h0p := rnC_nn hby hr1
  obtain ⟨N, rfl⟩ : ∃ N : Nat, p1 = N := ⟨p1.toNat, by omega⟩
  refine LP_one ?_
  refine L_v rfl rfl rfl (V_assign rfl rfl) ?_
  refine L_nil ?_
  refine LP_nil ?_
  change J _ _ _ _
  refine J_seq ?_
  refine J_seq ?_
  refine J_region ?_
  refine L_v rfl rfl rfl (V_move rfl rfl) ?_
  refine L_v rfl rfl rfl (V_gtr rfl rfl rfl (by first | exact decide_eq_true (by omega) | exact decide_eq_false (by omega) | rfl)) ?_
  refine L_nil ?_
  change J _ _ _ _
  refine J_cond rfl (fun h1 => ?_) (fun h1 => ?_)
  ·
    first | (have h1 := of_decide_eq_true h1) | (have h1 := of_decide_eq_false h1) | skip
    refine J_regionP ?_
    refine LP_one ?_
    refine L_v rfl rfl rfl (V_build (vs := [(0, .int .i64 60)]) rfl rfl (bdStop 60)) ?_
    refine L_nil ?_
    refine LP_one ?_
    refine L_v rfl rfl rfl (V_makeIface rfl rfl Tryz.underlying157 rfl) ?_
    refine L_nil ?_
    refine LP_panic rfl rfl rfl ?_
    change KretP _ _ _ (Exit.panic _) _
    refine KretP_panic rfl ?_
    exact fun w' h => InP.no (show rnL hdC l = _ from rnL_2 hr1 h1) h.fr
  ·
    first | (have h1 := of_decide_eq_true h1) | (have h1 := of_decide_eq_false h1) | skip
    have hN : ¬ (4096 : Int) < N := h1
    refine J_skip ?_
    change J _ _ _ _
    refine J_seq ?_
    refine J_region ?_
    refine L_v rfl rfl rfl (V_assign rfl rfl) ?_
    refine L_nil ?_
    change J _ _ _ _
    refine J_seq ?_
    refine J_seq ?_
    refine J_region ?_
    refine L_v rfl rfl rfl (V_move rfl rfl) ?_
    refine L_v rfl rfl rfl (V_move rfl rfl) ?_
    refine L_nil ?_
    change J _ _ _ _
    refine J_block ?_
    refine J_loop (X := Nat × OwnR × List Hd × (Option Addr × Nat × Nat) × List Int) (fun x => { env := [(0, .pointer (some ⟨ib, 0, none⟩)), (1, .func (.func F) first cap), (6, ownV x.2.1 x.1), (13, vi (N : Int)), (14, vi (x.1 : Int))], mem := rdM rb x.2.2.2.1.1 x.2.2.2.1.2.1 x.2.2.2.1.2.2 :: ownM 47 x.2.1 ((x.2.2.1.map hdV).flatten), facts := [factB u0 l0, factO ib (inO rb)] }) (fun x => x.1 ≤ N ∧ x.2.2.1.length = x.1 ∧ OwnC 65 x.2.1 x.1 ((x.2.2.1.map hdV).flatten) ∧ (∀ W, SlB W u0 l0 → SlB W (.slice x.2.2.2.1.1 x.2.2.2.1.2.1 x.2.2.2.1.2.2) x.2.2.2.2) ∧ Byt x.2.2.2.2 ∧ x.2.2.2.1.2.1 ≤ x.2.2.2.1.2.2 ∧ x.2.2.2.2.length ≤ 1099511627776 ∧ rnN hdC (N - x.1) x.2.2.2.2 x.2.2.1 = rnN hdC N l1 []) (fun x => N - x.1) (0, none, [], (a1, n1, c1), l1) ⟨Nat.zero_le _, rfl, ⟨rfl, rfl⟩, hD1, hby1, hc1, hl1, rfl⟩ ⟨⟨rfl, rfl, rfl, rfl, rfl, trivial⟩, List.Sublist.refl _, fun f hf => hf, rfl⟩ ?_
    rintro ⟨i, q, acc, ⟨a', n', c'⟩, l'⟩ ⟨hi, hal, hq, hD', hby', hc', hl', hR⟩
    simp only at hi hal hq hD' hby' hc' hl' hR ⊢
    refine J_seq ?_
    refine J_region ?_
    refine L_v rfl rfl rfl (V_lss rfl rfl rfl (by first | exact decide_eq_true (by omega) | exact decide_eq_false (by omega) | rfl)) ?_
    refine L_nil ?_
    change J _ _ _ _
    refine J_seq ?_
    refine J_cond rfl (fun h2 => ?_) (fun h2 => ?_)
    ·
      first | (have h2 := of_decide_eq_true h2) | (have h2 := of_decide_eq_false h2) | skip
      refine J_skip ?_
      change J _ _ _ _
      refine J_seq ?_
      refine J_block ?_
      refine J_regionP ?_
      refine LP_one ?_
      refine L_v rfl rfl rfl (V_move rfl rfl) ?_
      refine L_nil ?_
      refine LP_one ?_
      refine L_v rfl rfl rfl (V_move rfl rfl) ?_
      refine L_nil ?_
      refine LP_in 0 rfl rfl rfl rfl rfl rfl htx rfl (fun w1 hw => hone w1 _ _ _ _ (hw.at (i := 0) rfl) (fxIn hw rfl) hD' hby' hc' hl') (fun hk => KretP_panic rfl (fun w' h => InP.no (show rnL hdC l = _ from (rnL_3 hr1 hN).trans (rnN_no (by omega) hk hR)) h.fr)) (fun x2 l2 v2 fs2 a2 n2 c2 hr2 hV2 hc2 hD2 hnw2 => ?_)
      obtain ⟨rfl, rfl⟩ := hV2
      have hby2 := Cdc.byt hdC hby' hr2
      have hl2 := Nat.le_trans (Cdc.short hdC hby' hr2) hl'
      refine LP_one ?_
      refine L_buildSlice (vs := [(0, .agg (hdV x2).toArray)]) (l := hdV x2) rfl rfl rfl rfl rfl (bsH x2) (fun b9 => ?_)
      refine L_nil ?_
      refine LP_one ?_
      refine L_appN [rdM rb a2 n2 c2] [(b9, row 47 (hdV x2))] q ((acc.map hdV).flatten) (n' := i + 1) (ks' := ((acc ++ [x2]).map hdV).flatten) rfl rfl rfl rfl rfl Tryz.underlying60 elH rfl hq (fun w1 hw => src_C Tryz.underlying60 (SlC.in hw (ks := hdV x2) (r := []) (fz := (0, 0)) (List.mem_cons_of_mem _ (List.mem_append_right _ (by rw [List.append_nil]; exact List.mem_singleton.2 rfl))) (show (hdV x2).length = 1 * 65 from rfl) 1) (all_one (by kernel_rfl))) rfl (mapf_app hdV acc x2) (by omega) (by omega) (fun q' hq' => ?_)
      refine L_nil ?_
      refine LP_one ?_
      refine L_v rfl rfl rfl (V_assign rfl rfl) ?_
      refine L_nil ?_
      refine LP_nil ?_
      change J _ _ _ _
      refine J_region ?_
      refine L_v rfl rfl rfl (V_add rfl rfl rfl (by first | exact Go.IntWalk.i64_in _ (by omega) | rfl)) ?_
      refine L_v rfl rfl rfl (V_move rfl rfl) ?_
      refine L_nil ?_
      exact ⟨(i + 1, q', acc ++ [x2], (a2, n2, c2), l2), ⟨by show i + 1 ≤ N; omega, by show (acc ++ [x2]).length = i + 1; simp [hal], hq', hD2, hby2, hc2, hl2, rnN_go (by omega) hr2 hR⟩, by show N - (i + 1) < N - i; omega, ⟨rfl, rfl, rfl, rfl, rfl, trivial⟩, List.Sublist.cons_cons _ (List.sublist_append_left _ _), fun f hf => hf, rfl⟩
    ·
      first | (have h2 := of_decide_eq_true h2) | (have h2 := of_decide_eq_false h2) | skip
      refine J_exit ?_
      change J _ _ _ _
      refine J_seq ?_
      refine J_region ?_
      refine L_v rfl rfl rfl (V_move rfl rfl) ?_
      refine L_v rfl rfl rfl (V_assign rfl rfl) ?_
      refine L_nil ?_
      change J _ _ _ _
      refine J_ret ?_
      change KretP _ _ _ Exit.ret _
      refine KretP_plain ?_
      refine ret1 rfl rfl (RV_t rfl) ?_
      obtain rfl : i = N := by omega
      have hfin := (rnL_3 hr1 hN).trans (rnN_end hR)
      exact fun w' h => InP.yes (show rnL hdC l = _ from hfin) h.fr (show Vl 65 hdV acc (ownV q i) [factC 65 (ownV q i) i ((acc.map hdV).flatten)] from by subst hal; exact ⟨⟨_, _, rfl⟩, rfl⟩) (fun f hf => by obtain rfl := List.mem_singleton.1 hf; exact own_fact (T := 47) h rfl (fun x hx => hx) hq) (h.at (i := 0) rfl) hc' hD'

theorem many_s (rb ib : Nat) (u0 : Value) (l0 : List Int) (F : FuncId) (first cap : Array Value) (htx : Txt Tryz.prog F) (hone : Rds F (first ++ #[] ++ cap) seC.rn (Va seV) rb ib u0 l0) (w : World) (a : Option Addr) (n c : Nat) (l : List Int) (hb : w.heap[rb]? = some (row 139 [.slice a n c])) (hfs : Fx [factB u0 l0, factO ib (inO rb)] w rb) (hD : ∀ W, SlB W u0 l0 → SlB W (.slice a n c) l) (hby : Byt l) (hcn : n ≤ c) (hl : l.length ≤ 1099511627776) :
    Calls Tryz.prog 85 #[.pointer (some ⟨ib, 0, none⟩), .func (.func F) first cap] w fun e w' => InP 139 157 w rb u0 l0 (rnL seC l) (Vl 4 seV) e w' := by
  refine calls_of_p (args := [.pointer (some ⟨ib, 0, none⟩), .func (.func F) first cap]) ([rb]) ([rdM rb a n c]) ([factB u0 l0, factO ib (inO rb)]) Tryz.func85 rfl rfl (okM1 hb hfs) ?_
  refine J_seq ?_
  refine J_region ?_
  refine L_v rfl rfl rfl (V_assign rfl rfl) ?_
  refine L_nil ?_
  change J _ _ _ _
  refine J_seq ?_
  refine J_regionP ?_
  refine LP_one ?_
  refine L_v rfl rfl rfl (V_move rfl rfl) ?_
  refine L_nil ?_
  refine LP_in 0 rfl rfl rfl rfl rfl rfl tx61k rfl (fun w1 hw => in_n rb ib u0 l0 w1 _ _ _ _ (hw.at (i := 0) rfl) (fxIn hw rfl) hD hby hcn hl) (fun hk => KretP_panic rfl (fun w' h => InP.no (show rnL seC l = _ from rnL_1 hk) h.fr)) (fun p1 l1 v1 fs1 a1 n1 c1 hr1 hV1 hc1 hD1 hnw1 => ?_)
  obtain ⟨rfl, rfl⟩ := hV1
  have hby1 := Cdc.byt cC hby hr1
  have hl1 := Nat.le_trans (Cdc.short cC hby hr1) hl
  have h0p := rnC_nn hby hr1
  obtain ⟨N, rfl⟩ : ∃ N : Nat, p1 = N := ⟨p1.toNat, by omega⟩
  refine LP_one ?_
  refine L_v rfl rfl rfl (V_assign rfl rfl) ?_
  refine L_nil ?_
  refine LP_nil ?_
  change J _ _ _ _
  refine J_seq ?_
  refine J_seq ?_
  refine J_region ?_
  refine L_v rfl rfl rfl (V_move rfl rfl) ?_
  refine L_v rfl rfl rfl (V_gtr rfl rfl rfl (by first | exact decide_eq_true (by omega) | exact decide_eq_false (by omega) | rfl)) ?_
  refine L_nil ?_
  change J _ _ _ _
  refine J_cond rfl (fun h1 => ?_) (fun h1 => ?_)
  ·
    first | (have h1 := of_decide_eq_true h1) | (have h1 := of_decide_eq_false h1) | skip
    refine J_regionP ?_
    refine LP_one ?_
    refine L_v rfl rfl rfl (V_build (vs := [(0, .int .i64 60)]) rfl rfl (bdStop 60)) ?_
    refine L_nil ?_
    refine LP_one ?_
    refine L_v rfl rfl rfl (V_makeIface rfl rfl Tryz.underlying157 rfl) ?_
    refine L_nil ?_
    refine LP_panic rfl rfl rfl ?_
    change KretP _ _ _ (Exit.panic _) _
    refine KretP_panic rfl ?_
    exact fun w' h => InP.no (show rnL seC l = _ from rnL_2 hr1 h1) h.fr
  ·
    first | (have h1 := of_decide_eq_true h1) | (have h1 := of_decide_eq_false h1) | skip
    have hN : ¬ (4096 : Int) < N := h1
    refine J_skip ?_
    change J _ _ _ _
    refine J_seq ?_
    refine J_region ?_
    refine L_v rfl rfl rfl (V_assign rfl rfl) ?_
    refine L_nil ?_
    change J _ _ _ _
    refine J_seq ?_
    refine J_seq ?_
    refine J_region ?_
    refine L_v rfl rfl rfl (V_move rfl rfl) ?_
    refine L_v rfl rfl rfl (V_move rfl rfl) ?_
    refine L_nil ?_
    change J _ _ _ _
    refine J_block ?_
    refine J_loop (X := Nat × OwnR × List Se × (Option Addr × Nat × Nat) × List Int) (fun x => { env := [(0, .pointer (some ⟨ib, 0, none⟩)), (1, .func (.func F) first cap), (6, ownV x.2.1 x.1), (13, vi (N : Int)), (14, vi (x.1 : Int))], mem := rdM rb x.2.2.2.1.1 x.2.2.2.1.2.1 x.2.2.2.1.2.2 :: ownM 106 x.2.1 ((x.2.2.1.map seV).flatten), facts := [factB u0 l0, factO ib (inO rb)] }) (fun x => x.1 ≤ N ∧ x.2.2.1.length = x.1 ∧ OwnC 4 x.2.1 x.1 ((x.2.2.1.map seV).flatten) ∧ (∀ W, SlB W u0 l0 → SlB W (.slice x.2.2.2.1.1 x.2.2.2.1.2.1 x.2.2.2.1.2.2) x.2.2.2.2) ∧ Byt x.2.2.2.2 ∧ x.2.2.2.1.2.1 ≤ x.2.2.2.1.2.2 ∧ x.2.2.2.2.length ≤ 1099511627776 ∧ rnN seC (N - x.1) x.2.2.2.2 x.2.2.1 = rnN seC N l1 []) (fun x => N - x.1) (0, none, [], (a1, n1, c1), l1) ⟨Nat.zero_le _, rfl, ⟨rfl, rfl⟩, hD1, hby1, hc1, hl1, rfl⟩ ⟨⟨rfl, rfl, rfl, rfl, rfl, trivial⟩, List.Sublist.refl _, fun f hf => hf, rfl⟩ ?_
    rintro ⟨i, q, acc, ⟨a', n', c'⟩, l'⟩ ⟨hi, hal, hq, hD', hby', hc', hl', hR⟩
    simp only at hi hal hq hD' hby' hc' hl' hR ⊢
    refine J_seq ?_
    refine J_region ?_
    refine L_v rfl rfl rfl (V_lss rfl rfl rfl (by first | exact decide_eq_true (by omega) | exact decide_eq_false (by omega) | rfl)) ?_
    refine L_nil ?_
    change J _ _ _ _
    refine J_seq ?_
    refine J_cond rfl (fun h2 => ?_) (fun h2 => ?_)
    ·
      first | (have h2 := of_decide_eq_true h2) | (have h2 := of_decide_eq_false h2) | skip
      refine J_skip ?_
      change J _ _ _ _
      refine J_seq ?_
      refine J_block ?_
      refine J_regionP ?_
      refine LP_one ?_
      refine L_v rfl rfl rfl (V_move rfl rfl) ?_
      refine L_nil ?_
      refine LP_one ?_
      refine L_v rfl rfl rfl (V_move rfl rfl) ?_
      refine L_nil ?_
      refine LP_in 0 rfl rfl rfl rfl rfl rfl htx rfl (fun w1 hw => hone w1 _ _ _ _ (hw.at (i := 0) rfl) (fxIn hw rfl) hD' hby' hc' hl') (fun hk => KretP_panic rfl (fun w' h => InP.no (show rnL seC l = _ from (rnL_3 hr1 hN).trans (rnN_no (by omega) hk hR)) h.fr)) (fun x2 l2 v2 fs2 a2 n2 c2 hr2 hV2 hc2 hD2 hnw2 => ?_)
      obtain ⟨rfl, rfl⟩ := hV2
      have hby2 := Cdc.byt seC hby' hr2
      have hl2 := Nat.le_trans (Cdc.short seC hby' hr2) hl'
      refine LP_one ?_
      refine L_buildSlice (vs := [(0, .agg (seV x2).toArray)]) (l := seV x2) rfl rfl rfl rfl rfl (bsS x2) (fun b9 => ?_)
      refine L_nil ?_
      refine LP_one ?_
      refine L_appN [rdM rb a2 n2 c2] [(b9, row 106 (seV x2))] q ((acc.map seV).flatten) (n' := i + 1) (ks' := ((acc ++ [x2]).map seV).flatten) rfl rfl rfl rfl rfl Tryz.underlying61 elS rfl hq (fun w1 hw => src_C Tryz.underlying61 (SlC.in hw (ks := seV x2) (r := []) (fz := (0, 0)) (List.mem_cons_of_mem _ (List.mem_append_right _ (by rw [List.append_nil]; exact List.mem_singleton.2 rfl))) (show (seV x2).length = 1 * 4 from rfl) 1) (all_one (by kernel_rfl))) rfl (mapf_app seV acc x2) (by omega) (by omega) (fun q' hq' => ?_)
      refine L_nil ?_
      refine LP_one ?_
      refine L_v rfl rfl rfl (V_assign rfl rfl) ?_
      refine L_nil ?_
      refine LP_nil ?_
      change J _ _ _ _
      refine J_region ?_
      refine L_v rfl rfl rfl (V_add rfl rfl rfl (by first | exact Go.IntWalk.i64_in _ (by omega) | rfl)) ?_
      refine L_v rfl rfl rfl (V_move rfl rfl) ?_
      refine L_nil ?_
      exact ⟨(i + 1, q', acc ++ [x2], (a2, n2, c2), l2), ⟨by show i + 1 ≤ N; omega, by show (acc ++ [x2]).length = i + 1; simp [hal], hq', hD2, hby2, hc2, hl2, rnN_go (by omega) hr2 hR⟩, by show N - (i + 1) < N - i; omega, ⟨rfl, rfl, rfl, rfl, rfl, trivial⟩, List.Sublist.cons_cons _ (List.sublist_append_left _ _), fun f hf => hf, rfl⟩
    ·
      first | (have h2 := of_decide_eq_true h2) | (have h2 := of_decide_eq_false h2) | skip
      refine J_exit ?_
      change J _ _ _ _
      refine J_seq ?_
      refine J_region ?_
      refine L_v rfl rfl rfl (V_move rfl rfl) ?_
      refine L_v rfl rfl rfl (V_assign rfl rfl) ?_
      refine L_nil ?_
      change J _ _ _ _
      refine J_ret ?_
      change KretP _ _ _ Exit.ret _
      refine KretP_plain ?_
      refine ret1 rfl rfl (RV_t rfl) ?_
      obtain rfl : i = N := by omega
      have hfin := (rnL_3 hr1 hN).trans (rnN_end hR)
      exact fun w' h => InP.yes (show rnL seC l = _ from hfin) h.fr (show Vl 4 seV acc (ownV q i) [factC 4 (ownV q i) i ((acc.map seV).flatten)] from by subst hal; exact ⟨⟨_, _, rfl⟩, rfl⟩) (fun f hf => by obtain rfl := List.mem_singleton.1 hf; exact own_fact (T := 106) h rfl (fun x hx => hx) hq) (h.at (i := 0) rfl) hc' hD'

end Go.Proofs.YtfgcfjojpakpjaaGreat
