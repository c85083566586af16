/- What layer 8 reads: a directory. -/
import Derived.Test.YtfgcfjojpakpjaaGreatWIn4
set_option linter.unusedVariables false
set_option linter.unusedSimpArgs false
set_option maxRecDepth 100000
namespace Go.Proofs.YtfgcfjojpakpjaaGreat
open Go.Sx
abbrev VlU (x : List Us) (v : Value) (fs : List Fact) : Prop := ∃ (us : List (Us × Value)) (a : Option Addr) (c : Nat), us.map Prod.fst = x ∧ v = Sl a us.length c ∧ fs = factC 2 (Sl a us.length c) us.length (us.map usW).flatten :: us.map usF
abbrev Wdr (x : Dr) (v : Value) (fs : List Fact) : Prop := ∃ (us : List (Us × Value)) (a1 : Option Addr) (c1 : Nat) (a2 : Option Addr) (c2 : Nat) (a3 : Option Addr) (c3 : Nat), us.map Prod.fst = x.2.1 ∧ v = .agg (drV x.1 (Sl a1 us.length c1) (Sl a2 x.2.2.1.length c2) (Sl a3 x.2.2.2.length c3)).toArray ∧
  fs = (factC 2 (Sl a1 us.length c1) us.length (us.map usW).flatten :: us.map usF) ++ [factC 65 (Sl a2 x.2.2.1.length c2) x.2.2.1.length (x.2.2.1.map hdV).flatten] ++ [factC 4 (Sl a3 x.2.2.2.length c3) x.2.2.2.length (x.2.2.2.map seV).flatten]
theorem elU : ElemOf Tryz.prog 103 2 40 (.agg (usV (⟨#[]⟩, []) (.slice none 0 0)).toArray) := elem_of (by kernel_rfl) (by kernel_rfl)
theorem bsU (p : Us × Value) (w : World) : (Instr.buildSlice 59 1 [(0, .agg (usW p).toArray)].toArray).run Tryz.prog w = .ok (.slice (some ⟨w.heap.size, 0, none⟩) 1 1) (w.alloc (row 103 (usW p))) := by kernel_rfl
theorem us_app {F : List Fact} {acc : List (Us × Value)} {p : Us × Value} : ∀ g ∈ F ++ (acc ++ [p]).map usF, g ∈ (F ++ acc.map usF) ++ [usF p] := fun g h => by rw [List.map_append, ← List.append_assoc] at h; exact h
theorem sz3u : (Tryz.prog.info? 3).map (·.size) = some 1 := by kernel_rfl
theorem sz59u : (Tryz.prog.info? 59).map (·.size) = some 1 := by kernel_rfl
theorem sz60u : (Tryz.prog.info? 60).map (·.size) = some 1 := by kernel_rfl
theorem sz61u : (Tryz.prog.info? 61).map (·.size) = some 1 := by kernel_rfl
theorem sz63u : (Tryz.prog.info? 63).map (·.size) = some 4 := by kernel_rfl
theorem tx61u : Txt Tryz.prog 61 := txt_of Tryz.func61 rfl (by kernel_rfl)
theorem tx78u : Txt Tryz.prog 78 := txt_of Tryz.func78 rfl (by kernel_rfl)
theorem tx82u : Txt Tryz.prog 82 := txt_of Tryz.func82 rfl (by kernel_rfl)
theorem tx83u : Txt Tryz.prog 83 := txt_of Tryz.func83 rfl (by kernel_rfl)
theorem tx84u : Txt Tryz.prog 84 := txt_of Tryz.func84 rfl (by kernel_rfl)
theorem tx85u : Txt Tryz.prog 85 := txt_of Tryz.func85 rfl (by kernel_rfl)
theorem tx86u : Txt Tryz.prog 86 := txt_of Tryz.func86 rfl (by kernel_rfl)
theorem z63u : (Tryz.prog.info? 63).bind (·.zero) = some (.agg [.int .i64 0, .slice none 0 0, .slice none 0 0, .slice none 0 0].toArray) := by kernel_rfl

theorem many_u (rb ib : Nat) (u0 : Value) (l0 : List Int) (F : FuncId) (first cap : Array Value) (htx : Txt Tryz.prog F) (hone : Rds F (first ++ #[] ++ cap) usC.rn Wus rb ib u0 l0) (w : World) (a : Option Addr) (n c : Nat) (l : List Int) (hb : w.heap[rb]? = some (row 139 [.slice a n c])) (hfs : Fx [factB u0 l0, factO ib (inO rb)] w rb) (hD : ∀ W, SlB W u0 l0 → SlB W (.slice a n c) l) (hby : Byt l) (hcn : n ≤ c) (hl : l.length ≤ 1099511627776) :
    Calls Tryz.prog 82 #[.pointer (some ⟨ib, 0, none⟩), .func (.func F) first cap] w fun e w' => InP 139 157 w rb u0 l0 (rnL usC l) (VlU) e w' := by
  refine calls_of_p (args := [.pointer (some ⟨ib, 0, none⟩), .func (.func F) first cap]) ([rb]) ([rdM rb a n c]) ([factB u0 l0, factO ib (inO rb)]) Tryz.func82 rfl rfl (okM1 hb hfs) ?_
  refine J_seq ?_
  refine J_region ?_
  refine L_v rfl rfl rfl (V_assign rfl rfl) ?_
  refine L_nil ?_
  change J _ _ _ _
  refine J_seq ?_
  refine J_regionP ?_
  refine LP_one ?_
  refine L_v rfl rfl rfl (V_move rfl rfl) ?_
  refine L_nil ?_
  refine LP_in 0 rfl rfl rfl rfl rfl rfl tx61u rfl (fun w1 hw => in_n rb ib u0 l0 w1 _ _ _ _ (hw.at (i := 0) rfl) (fxIn hw rfl) hD hby hcn hl) (fun hk => KretP_panic rfl (fun w' h => InP.no (show rnL usC l = _ from rnL_1 hk) h.fr)) (fun p1 l1 v1 fs1 a1 n1 c1 hr1 hV1 hc1 hD1 hnw1 => ?_)
  obtain ⟨rfl, rfl⟩ := hV1
  have hby1 := Cdc.byt cC hby hr1
  have hl1 := Nat.le_trans (Cdc.short cC hby hr1) hl
  have h0p := rnC_nn hby hr1
  obtain ⟨N, rfl⟩ : ∃ N : Nat, p1 = N := ⟨p1.toNat, by omega⟩
  refine LP_one ?_
  refine L_v rfl rfl rfl (V_assign rfl rfl) ?_
  refine L_nil ?_
  refine LP_nil ?_
  change J _ _ _ _
  refine J_seq ?_
  refine J_seq ?_
  refine J_region ?_
  refine L_v rfl rfl rfl (V_move rfl rfl) ?_
  refine L_v rfl rfl rfl (V_gtr rfl rfl rfl (by first | exact decide_eq_true (by omega) | exact decide_eq_false (by omega) | rfl)) ?_
  refine L_nil ?_
  change J _ _ _ _
  refine J_cond rfl (fun h1 => ?_) (fun h1 => ?_)
  ·
    first | (have h1 := of_decide_eq_true h1) | (have h1 := of_decide_eq_false h1) | skip
    refine J_regionP ?_
    refine LP_one ?_
    refine L_v rfl rfl rfl (V_build (vs := [(0, .int .i64 60)]) rfl rfl (bdStop 60)) ?_
    refine L_nil ?_
    refine LP_one ?_
    refine L_v rfl rfl rfl (V_makeIface rfl rfl Tryz.underlying157 rfl) ?_
    refine L_nil ?_
    refine LP_panic rfl rfl rfl ?_
    change KretP _ _ _ (Exit.panic _) _
    refine KretP_panic rfl ?_
    exact fun w' h => InP.no (show rnL usC l = _ from rnL_2 hr1 h1) h.fr
  ·
    first | (have h1 := of_decide_eq_true h1) | (have h1 := of_decide_eq_false h1) | skip
    have hN : ¬ (4096 : Int) < N := h1
    refine J_skip ?_
    change J _ _ _ _
    refine J_seq ?_
    refine J_region ?_
    refine L_v rfl rfl rfl (V_assign rfl rfl) ?_
    refine L_nil ?_
    change J _ _ _ _
    refine J_seq ?_
    refine J_seq ?_
    refine J_region ?_
    refine L_v rfl rfl rfl (V_move rfl rfl) ?_
    refine L_v rfl rfl rfl (V_move rfl rfl) ?_
    refine L_nil ?_
    change J _ _ _ _
    refine J_block ?_
    refine J_loop (X := Nat × OwnR × List (Us × Value) × (Option Addr × Nat × Nat) × List Int) (fun x => { env := [(0, .pointer (some ⟨ib, 0, none⟩)), (1, .func (.func F) first cap), (6, ownV x.2.1 x.1), (13, vi (N : Int)), (14, vi (x.1 : Int))], mem := rdM rb x.2.2.2.1.1 x.2.2.2.1.2.1 x.2.2.2.1.2.2 :: ownM 103 x.2.1 ((x.2.2.1.map usW).flatten), facts := [factB u0 l0, factO ib (inO rb)] ++ x.2.2.1.map usF }) (fun x => x.1 ≤ N ∧ x.2.2.1.length = x.1 ∧ OwnC 2 x.2.1 x.1 ((x.2.2.1.map usW).flatten) ∧ (∀ W, SlB W u0 l0 → SlB W (.slice x.2.2.2.1.1 x.2.2.2.1.2.1 x.2.2.2.1.2.2) x.2.2.2.2) ∧ Byt x.2.2.2.2 ∧ x.2.2.2.1.2.1 ≤ x.2.2.2.1.2.2 ∧ x.2.2.2.2.length ≤ 1099511627776 ∧ rnN usC (N - x.1) x.2.2.2.2 (x.2.2.1.map Prod.fst) = rnN usC N l1 [] ∧ ∀ f ∈ x.2.2.1.map usF, ∀ k, f.fp k → w.heap.size ≤ k) (fun x => N - x.1) (0, none, [], (a1, n1, c1), l1) ⟨Nat.zero_le _, rfl, ⟨rfl, rfl⟩, hD1, hby1, hc1, hl1, rfl, fun f hf => by cases hf⟩ ⟨⟨rfl, rfl, rfl, rfl, rfl, trivial⟩, List.Sublist.refl _, fun f hf => hf, rfl⟩ ?_
    rintro ⟨i, q, acc, ⟨a', n', c'⟩, l'⟩ ⟨hi, hal, hq, hD', hby', hc', hl', hR, hN3⟩
    simp only at hi hal hq hD' hby' hc' hl' hR hN3 ⊢
    refine J_seq ?_
    refine J_region ?_
    refine L_v rfl rfl rfl (V_lss rfl rfl rfl (by first | exact decide_eq_true (by omega) | exact decide_eq_false (by omega) | rfl)) ?_
    refine L_nil ?_
    change J _ _ _ _
    refine J_seq ?_
    refine J_cond rfl (fun h2 => ?_) (fun h2 => ?_)
    ·
      first | (have h2 := of_decide_eq_true h2) | (have h2 := of_decide_eq_false h2) | skip
      refine J_skip ?_
      change J _ _ _ _
      refine J_seq ?_
      refine J_block ?_
      refine J_regionP ?_
      refine LP_one ?_
      refine L_v rfl rfl rfl (V_move rfl rfl) ?_
      refine L_nil ?_
      refine LP_one ?_
      refine L_v rfl rfl rfl (V_move rfl rfl) ?_
      refine L_nil ?_
      refine LP_in 0 rfl rfl rfl rfl rfl rfl htx rfl (fun w1 hw => hone w1 _ _ _ _ (hw.at (i := 0) rfl) (fxIn hw rfl) hD' hby' hc' hl') (fun hk => KretP_panic rfl (fun w' h => InP.no (show rnL usC l = _ from (rnL_3 hr1 hN).trans (rnN_no (by omega) hk hR)) h.fr)) (fun x2 l2 v2 fs2 a2 n2 c2 hr2 hV2 hc2 hD2 hnw2 => ?_)
      obtain ⟨ya, yc, rfl, rfl⟩ := hV2
      have hby2 := Cdc.byt usC hby' hr2
      have hl2 := Nat.le_trans (Cdc.short usC hby' hr2) hl'
      refine LP_one ?_
      refine L_buildSlice (vs := [(0, .agg (usW (x2, Sl ya x2.2.length yc)).toArray)]) (l := usW (x2, Sl ya x2.2.length yc)) rfl rfl rfl rfl rfl (bsU _) (fun b9 => ?_)
      refine L_nil ?_
      refine LP_one ?_
      refine L_appN [rdM rb a2 n2 c2] [(b9, row 103 (usW (x2, Sl ya x2.2.length yc)))] q ((acc.map usW).flatten) (n' := i + 1) (ks' := ((acc ++ [(x2, Sl ya x2.2.length yc)]).map usW).flatten) rfl rfl rfl rfl rfl Tryz.underlying59 elU rfl hq (fun w1 hw => src_C Tryz.underlying59 (SlC.in hw (ks := usW (x2, Sl ya x2.2.length yc)) (r := []) (fz := (0, 0)) (List.mem_cons_of_mem _ (List.mem_append_right _ (by rw [List.append_nil]; exact List.mem_singleton.2 rfl))) (show (usW (x2, Sl ya x2.2.length yc)).length = 1 * 2 from rfl) 1) (all_one (by kernel_rfl))) rfl (mapf_app usW acc (x2, Sl ya x2.2.length yc)) (by omega) (by omega) (fun q' hq' => ?_)
      refine L_nil ?_
      refine LP_one ?_
      refine L_v rfl rfl rfl (V_assign rfl rfl) ?_
      refine L_nil ?_
      refine LP_nil ?_
      change J _ _ _ _
      refine J_region ?_
      refine L_v rfl rfl rfl (V_add rfl rfl rfl (by first | exact Go.IntWalk.i64_in _ (by omega) | rfl)) ?_
      refine L_v rfl rfl rfl (V_move rfl rfl) ?_
      refine L_nil ?_
      exact ⟨(i + 1, q', acc ++ [(x2, Sl ya x2.2.length yc)], (a2, n2, c2), l2), ⟨by show i + 1 ≤ N; omega, by show (acc ++ [_]).length = i + 1; simp [hal], hq', hD2, hby2, hc2, hl2, by show rnN usC _ _ ((acc ++ [_]).map Prod.fst) = _; rw [List.map_append]; exact rnN_go (by omega) hr2 hR, fun f hf => by
        rw [List.map_append] at hf
        rcases List.mem_append.1 hf with hf | hf
        · exact hN3 f hf
        · exact hnw2 f hf⟩, by show N - (i + 1) < N - i; omega, ⟨rfl, rfl, rfl, rfl, rfl, trivial⟩, List.Sublist.cons_cons _ (List.sublist_append_left _ _), us_app, rfl⟩
    ·
      first | (have h2 := of_decide_eq_true h2) | (have h2 := of_decide_eq_false h2) | skip
      refine J_exit ?_
      change J _ _ _ _
      refine J_seq ?_
      refine J_region ?_
      refine L_v rfl rfl rfl (V_move rfl rfl) ?_
      refine L_v rfl rfl rfl (V_assign rfl rfl) ?_
      refine L_nil ?_
      change J _ _ _ _
      refine J_ret ?_
      change KretP _ _ _ Exit.ret _
      refine KretP_plain ?_
      refine ret1 rfl rfl (RV_t rfl) ?_
      obtain rfl : i = N := by omega
      have hfin := (rnL_3 hr1 hN).trans (rnN_end hR)
      subst hal
      exact fun w' h => InP.yes (show rnL usC l = _ from hfin) h.fr (show VlU (acc.map Prod.fst) (ownV q acc.length) _ from ⟨acc, _, _, rfl, rfl, rfl⟩) (fun f hf => by
        rcases List.mem_cons.1 hf with rfl | hf
        · exact own_fact (T := 103) h rfl (fun x hx => hx) hq
        · exact inFacts h (fun f hf => List.mem_append_right _ hf) hN3 f hf) (h.at (i := 0) rfl) hc' hD'

theorem in_directory (rb ib : Nat) (u0 : Value) (l0 : List Int) (w : World) (a : Option Addr) (n c : Nat) (l : List Int) (hb : w.heap[rb]? = some (row 139 [.slice a n c])) (hfs : Fx [factB u0 l0, factO ib (inO rb)] w rb) (hD : ∀ W, SlB W u0 l0 → SlB W (.slice a n c) l) (hby : Byt l) (hcn : n ≤ c) (hl : l.length ≤ 1099511627776) :
    Calls Tryz.prog 53 #[.pointer (some ⟨ib, 0, none⟩)] w fun e w' => InP 139 157 w rb u0 l0 ((drC).rn l) (Wdr) e w' := by
  refine calls_of_p (args := [.pointer (some ⟨ib, 0, none⟩)]) ([rb]) ([rdM rb a n c]) ([factB u0 l0, factO ib (inO rb)]) Tryz.func53 rfl rfl (okM1 hb hfs) ?_
  refine J_seq ?_
  refine J_region ?_
  refine L_alloc rfl rfl rfl rfl z63u (fun b1 => ?_)
  refine L_nil ?_
  change J _ _ _ _
  refine J_seq ?_
  refine J_regionP ?_
  refine LP_one ?_
  refine L_v rfl rfl rfl (V_move rfl rfl) ?_
  refine L_nil ?_
  refine LP_in 0 rfl rfl rfl rfl rfl rfl tx61u rfl (fun w1 hw => in_n rb ib u0 l0 w1 _ _ _ _ (hw.at (i := 0) rfl) (fxIn hw rfl) hD hby hcn hl) (fun hk => KretP_panic rfl (fun w' h => InP.no (show (drC).rn l = _ from prN1 (hk)) h.fr)) (fun p1 l1 v1 fs1 a1 n1 c1 hr1 hV1 hc1 hD1 hnw1 => ?_)
  obtain ⟨rfl, rfl⟩ := hV1
  have hby1 := Cdc.byt cC hby hr1
  have hl1 := Nat.le_trans (Cdc.short cC hby hr1) hl
  refine LP_one ?_
  refine L_v rfl rfl rfl (V_fieldAddr rfl rfl Tryz.underlying63 rfl sz3u rfl) ?_
  refine L_nil ?_
  refine LP_one ?_
  refine L_store1 1 (l' := drV p1 (.slice none 0 0) (.slice none 0 0) (.slice none 0 0)) rfl rfl rfl rfl rfl rfl rfl sz3u (Nat.le_of_ble_eq_true (by kernel_rfl)) (by kernel_rfl) ?_
  refine L_nil ?_
  refine LP_nil ?_
  change J _ _ _ _
  refine J_seq ?_
  refine J_le (st' := { env := [(0, .pointer (some ⟨ib, 0, none⟩)), (2, .pointer (some ⟨b1, 0, none⟩))], mem := [rdM rb a1 n1 c1, (b1, row 63 (drV p1 (.slice none 0 0) (.slice none 0 0) (.slice none 0 0)))], facts := ([factB u0 l0, factO ib (inO rb)]) }) ⟨⟨rfl, rfl, trivial⟩, List.Sublist.refl _, fun f hf => hf, rfl⟩ ?_
  refine J_regionP ?_
  refine LP_one ?_
  refine L_v rfl rfl rfl (V_move rfl rfl) ?_
  refine L_nil ?_
  refine LP_one ?_
  refine L_v rfl rfl rfl (V_move rfl rfl) ?_
  refine L_nil ?_
  refine LP_one ?_
  refine L_v rfl rfl rfl (V_makeFunc rfl rfl rfl) ?_
  refine L_nil ?_
  refine LP_in 0 rfl rfl rfl rfl rfl rfl tx82u rfl (fun w1 hw => many_u rb ib u0 l0 83 #[.pointer (some ⟨ib, 0, none⟩)] #[] tx83u (fun W a n c l h1 h2 h3 h4 h5 h6 => in_user rb ib u0 l0 W a n c l h1 h2 h3 h4 h5 h6) w1 _ _ _ _ (hw.at (i := 0) rfl) (fxIn hw rfl) hD1 hby1 hc1 hl1) (fun hk => KretP_panic rfl (fun w' h => InP.no (show (drC).rn l = _ from prN2 (hr1) (prN1 (hk))) h.fr)) (fun p2 l2 v2 fs2 a2 n2 c2 hr2 hV2 hc2 hD2 hnw2 => ?_)
  obtain ⟨us, va2, vc2, rfl, rfl, rfl⟩ := hV2
  have hby2 := Cdc.byt (ls usC) hby1 hr2
  have hl2 := Nat.le_trans (Cdc.short (ls usC) hby1 hr2) hl1
  refine LP_one ?_
  refine L_v rfl rfl rfl (V_fieldAddr rfl rfl Tryz.underlying63 rfl sz59u rfl) ?_
  refine L_nil ?_
  refine LP_one ?_
  refine L_store1 1 (l' := drV p1 (Sl va2 us.length vc2) (.slice none 0 0) (.slice none 0 0)) rfl rfl rfl rfl rfl rfl rfl sz59u (Nat.le_of_ble_eq_true (by kernel_rfl)) (by kernel_rfl) ?_
  refine L_nil ?_
  refine LP_nil ?_
  change J _ _ _ _
  refine J_seq ?_
  refine J_le (st' := { env := [(0, .pointer (some ⟨ib, 0, none⟩)), (2, .pointer (some ⟨b1, 0, none⟩))], mem := [rdM rb a2 n2 c2, (b1, row 63 (drV p1 (Sl va2 us.length vc2) (.slice none 0 0) (.slice none 0 0)))], facts := ([factB u0 l0, factO ib (inO rb)] ++ (factC 2 (Sl va2 us.length vc2) us.length (us.map usW).flatten :: us.map usF)) }) ⟨⟨rfl, rfl, trivial⟩, List.Sublist.refl _, fun f hf => hf, rfl⟩ ?_
  refine J_regionP ?_
  refine LP_one ?_
  refine L_v rfl rfl rfl (V_move rfl rfl) ?_
  refine L_nil ?_
  refine LP_one ?_
  refine L_v rfl rfl rfl (V_move rfl rfl) ?_
  refine L_nil ?_
  refine LP_one ?_
  refine L_v rfl rfl rfl (V_makeFunc rfl rfl rfl) ?_
  refine L_nil ?_
  refine LP_in 0 rfl rfl rfl rfl rfl rfl tx84u rfl (fun w1 hw => many_h rb ib u0 l0 78 #[.pointer (some ⟨ib, 0, none⟩)] #[] tx78u (fun W a n c l h1 h2 h3 h4 h5 h6 => in_head rb ib u0 l0 W a n c l h1 h2 h3 h4 h5 h6) w1 _ _ _ _ (hw.at (i := 0) rfl) (fxIn hw rfl) hD2 hby2 hc2 hl2) (fun hk => KretP_panic rfl (fun w' h => InP.no (show (drC).rn l = _ from prN2 (hr1) (prN2 (hr2) (prN1 (hk)))) h.fr)) (fun p3 l3 v3 fs3 a3 n3 c3 hr3 hV3 hc3 hD3 hnw3 => ?_)
  obtain ⟨⟨va3, vc3, rfl⟩, rfl⟩ := hV3
  have hby3 := Cdc.byt (ls hdC) hby2 hr3
  have hl3 := Nat.le_trans (Cdc.short (ls hdC) hby2 hr3) hl2
  refine LP_one ?_
  refine L_v rfl rfl rfl (V_fieldAddr rfl rfl Tryz.underlying63 rfl sz60u rfl) ?_
  refine L_nil ?_
  refine LP_one ?_
  refine L_store1 1 (l' := drV p1 (Sl va2 us.length vc2) (Sl va3 p3.length vc3) (.slice none 0 0)) rfl rfl rfl rfl rfl rfl rfl sz60u (Nat.le_of_ble_eq_true (by kernel_rfl)) (by kernel_rfl) ?_
  refine L_nil ?_
  refine LP_nil ?_
  change J _ _ _ _
  refine J_seq ?_
  refine J_le (st' := { env := [(0, .pointer (some ⟨ib, 0, none⟩)), (2, .pointer (some ⟨b1, 0, none⟩))], mem := [rdM rb a3 n3 c3, (b1, row 63 (drV p1 (Sl va2 us.length vc2) (Sl va3 p3.length vc3) (.slice none 0 0)))], facts := ([factB u0 l0, factO ib (inO rb)] ++ (factC 2 (Sl va2 us.length vc2) us.length (us.map usW).flatten :: us.map usF) ++ [factC 65 (Sl va3 p3.length vc3) p3.length (p3.map hdV).flatten]) }) ⟨⟨rfl, rfl, trivial⟩, List.Sublist.refl _, fun f hf => hf, rfl⟩ ?_
  refine J_regionP ?_
  refine LP_one ?_
  refine L_v rfl rfl rfl (V_move rfl rfl) ?_
  refine L_nil ?_
  refine LP_one ?_
  refine L_v rfl rfl rfl (V_move rfl rfl) ?_
  refine L_nil ?_
  refine LP_one ?_
  refine L_v rfl rfl rfl (V_makeFunc rfl rfl rfl) ?_
  refine L_nil ?_
  refine LP_in 0 rfl rfl rfl rfl rfl rfl tx85u rfl (fun w1 hw => many_s rb ib u0 l0 86 #[.pointer (some ⟨ib, 0, none⟩)] #[] tx86u (fun W a n c l h1 h2 h3 h4 h5 h6 => in_session rb ib u0 l0 W a n c l h1 h2 h3 h4 h5 h6) w1 _ _ _ _ (hw.at (i := 0) rfl) (fxIn hw rfl) hD3 hby3 hc3 hl3) (fun hk => KretP_panic rfl (fun w' h => InP.no (show (drC).rn l = _ from prN2 (hr1) (prN2 (hr2) (prN2 (hr3) (hk)))) h.fr)) (fun p4 l4 v4 fs4 a4 n4 c4 hr4 hV4 hc4 hD4 hnw4 => ?_)
  obtain ⟨⟨va4, vc4, rfl⟩, rfl⟩ := hV4
  have hby4 := Cdc.byt (ls seC) hby3 hr4
  have hl4 := Nat.le_trans (Cdc.short (ls seC) hby3 hr4) hl3
  refine LP_one ?_
  refine L_v rfl rfl rfl (V_fieldAddr rfl rfl Tryz.underlying63 rfl sz61u rfl) ?_
  refine L_nil ?_
  refine LP_one ?_
  refine L_store1 1 (l' := drV p1 (Sl va2 us.length vc2) (Sl va3 p3.length vc3) (Sl va4 p4.length vc4)) rfl rfl rfl rfl rfl rfl rfl sz61u (Nat.le_of_ble_eq_true (by kernel_rfl)) (by kernel_rfl) ?_
  refine L_nil ?_
  refine LP_nil ?_
  change J _ _ _ _
  refine J_seq ?_
  refine J_le (st' := { env := [(0, .pointer (some ⟨ib, 0, none⟩)), (2, .pointer (some ⟨b1, 0, none⟩))], mem := [rdM rb a4 n4 c4, (b1, row 63 (drV p1 (Sl va2 us.length vc2) (Sl va3 p3.length vc3) (Sl va4 p4.length vc4)))], facts := ([factB u0 l0, factO ib (inO rb)] ++ (factC 2 (Sl va2 us.length vc2) us.length (us.map usW).flatten :: us.map usF) ++ [factC 65 (Sl va3 p3.length vc3) p3.length (p3.map hdV).flatten] ++ [factC 4 (Sl va4 p4.length vc4) p4.length (p4.map seV).flatten]) }) ⟨⟨rfl, rfl, trivial⟩, List.Sublist.refl _, fun f hf => hf, rfl⟩ ?_
  refine J_region ?_
  refine L_v rfl rfl rfl (V_loadW 1 rfl rfl rfl Tryz.underlying63 rfl (szd sz63u (by kernel_rfl))) ?_
  refine L_storeW 1 rfl rfl rfl rfl rfl rfl (szd sz63u (by kernel_rfl)) (all_one (by kernel_rfl)) (by kernel_rfl) ?_
  refine L_nil ?_
  change J _ _ _ _
  refine J_ret ?_
  change KretP _ _ _ Exit.ret _
  refine KretP_plain ?_
  refine ret1 rfl rfl (RV_c 1 rfl rfl Tryz.underlying63 rfl (szd sz63u (by kernel_rfl))) ?_
  exact fun w' h => InP.yes (show (drC).rn l = _ from prY (hr1) (prY (hr2) (prY (hr3) (hr4)))) h.fr ⟨us, va2, vc2, va3, vc3, va4, vc4, rfl, rfl, rfl⟩ (inFacts h (fun f hf => by rcases List.mem_append.1 hf with hf | hf; rcases List.mem_append.1 hf with hf | hf; exact List.mem_append_left _ (List.mem_append_left _ (List.mem_append_right _ hf)); exact List.mem_append_left _ (List.mem_append_right _ hf); exact List.mem_append_right _ hf) (by intro f hf; rcases List.mem_append.1 hf with hf | hf; rcases List.mem_append.1 hf with hf | hf; exact hnw2 f hf; exact hnw3 f hf; exact hnw4 f hf)) (h.at (i := 0) rfl) hc4 hD4

end Go.Proofs.YtfgcfjojpakpjaaGreat
