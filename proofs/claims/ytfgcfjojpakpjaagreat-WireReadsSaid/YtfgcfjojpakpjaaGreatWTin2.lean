/- What the reference of layer 8 reads: users, a directory. -/
import Derived.Test.YtfgcfjojpakpjaaGreatWTin
import Derived.Test.YtfgcfjojpakpjaaGreatSx13
set_option linter.unusedVariables false
set_option linter.unusedSimpArgs false
set_option maxRecDepth 100000
namespace Go.Proofs.YtfgcfjojpakpjaaGreat
open Go.Sx
theorem memA {α : Type} {x y z : α} {A B C : List α} : (x :: y :: z :: (A ++ B)) ++ C = (x :: y :: z :: A) ++ (B ++ C) := by simp
theorem pk2 {α : Type} {x y : α} {A : List α} : List.Perm ((x :: A) ++ [y]) (x :: y :: A) := List.Perm.cons _ (List.perm_append_comm (l₁ := A) (l₂ := [y]))
theorem pk3 {α : Type} {x y z : α} {A : List α} : List.Perm ((x :: y :: A) ++ [z]) (x :: y :: z :: A) := List.Perm.cons _ pk2
theorem pk4 {α : Type} {x y z t : α} {A : List α} : List.Perm ((x :: y :: z :: A) ++ [t]) (x :: y :: z :: t :: A) := List.Perm.cons _ pk3
theorem bzU (w : World) : (Instr.build 103 ([] : List (Nat × Value)).toArray).run Tryz.prog w = .ok (.agg (usV (⟨#[]⟩, []) (.slice none 0 0)).toArray) w := by kernel_rfl
theorem bzV (w : World) : (Instr.build 109 ([] : List (Nat × Value)).toArray).run Tryz.prog w = .ok (.agg (vrV (0, 0, ⟨#[]⟩)).toArray) w := by kernel_rfl
theorem bzS (w : World) : (Instr.build 106 ([] : List (Nat × Value)).toArray).run Tryz.prog w = .ok (.agg (seV (0, 0, 0, 0)).toArray) w := by kernel_rfl
theorem bzD (w : World) : (Instr.build 63 ([] : List (Nat × Value)).toArray).run Tryz.prog w = .ok (.agg (drV 0 (.slice none 0 0) (.slice none 0 0) (.slice none 0 0)).toArray) w := by kernel_rfl
theorem us_app3 {F : List Fact} {acc : List (Us × Value)} {p : Us × Value} : ∀ g ∈ F ++ (acc ++ [p]).map usF, g ∈ (F ++ acc.map usF) ++ [usF p] := fun g h => by rw [List.map_append, ← List.append_assoc] at h; exact h
theorem loop_fin {α : Type} {f : RSt → α × RSt} {N i : Nat} {s s0 : RSt} {acc : List α} (hip : i = N) (h : loopF f (N - i) s acc = loopF f N s0 []) : loopF f N s0 [] = (acc, s) := by
  subst hip
  exact loop_end h
theorem fresh_of {A rb k : Nat} {p : Obj} {m : Mem} (h : (A ≤ k ∨ k ∈ [rb]) ∧ k ∉ ((rb, p) :: m).map (·.1)) : A ≤ k := by
  rcases h.1 with h1 | h1
  · exact h1
  · exact absurd (List.mem_cons.2 (.inl (List.mem_singleton.1 h1))) h.2
theorem sz3tu : (Tryz.prog.info? 3).map (·.size) = some 1 := by kernel_rfl
theorem sz4tu : (Tryz.prog.info? 4).map (·.size) = some 1 := by kernel_rfl
theorem sz9tu : (Tryz.prog.info? 9).map (·.size) = some 1 := by kernel_rfl
theorem sz28tu : (Tryz.prog.info? 28).map (·.size) = some 1 := by kernel_rfl
theorem sz47tu : (Tryz.prog.info? 47).map (·.size) = some 65 := by kernel_rfl
theorem sz59tu : (Tryz.prog.info? 59).map (·.size) = some 1 := by kernel_rfl
theorem sz60tu : (Tryz.prog.info? 60).map (·.size) = some 1 := by kernel_rfl
theorem sz61tu : (Tryz.prog.info? 61).map (·.size) = some 1 := by kernel_rfl
theorem sz63tu : (Tryz.prog.info? 63).map (·.size) = some 4 := by kernel_rfl
theorem sz101tu : (Tryz.prog.info? 101).map (·.size) = some 1 := by kernel_rfl
theorem sz103tu : (Tryz.prog.info? 103).map (·.size) = some 2 := by kernel_rfl
theorem sz106tu : (Tryz.prog.info? 106).map (·.size) = some 4 := by kernel_rfl
theorem sz107tu : (Tryz.prog.info? 107).map (·.size) = some 1 := by kernel_rfl
theorem sz109tu : (Tryz.prog.info? 109).map (·.size) = some 3 := by kernel_rfl
theorem tx64tu : Txt Tryz.prog 64 := txt_of Tryz.func64 rfl (by kernel_rfl)
theorem tx65tu : Txt Tryz.prog 65 := txt_of Tryz.func65 rfl (by kernel_rfl)
theorem tx79tu : Txt Tryz.prog 79 := txt_of Tryz.func79 rfl (by kernel_rfl)
theorem tx87tu : Txt Tryz.prog 87 := txt_of Tryz.func87 rfl (by kernel_rfl)
theorem tx88tu : Txt Tryz.prog 88 := txt_of Tryz.func88 rfl (by kernel_rfl)
theorem z47tu : (Tryz.prog.info? 47).bind (·.zero) = some (.agg [.int .i64 0, .int .u8 0, .int .u8 0, .int .u8 0, .int .u8 0, .int .u8 0, .int .u8 0, .int .u8 0, .int .u8 0, .int .u8 0, .int .u8 0, .int .u8 0, .int .u8 0, .int .u8 0, .int .u8 0, .int .u8 0, .int .u8 0, .int .u8 0, .int .u8 0, .int .u8 0, .int .u8 0, .int .u8 0, .int .u8 0, .int .u8 0, .int .u8 0, .int .u8 0, .int .u8 0, .int .u8 0, .int .u8 0, .int .u8 0, .int .u8 0, .int .u8 0, .int .u8 0, .int .u8 0, .int .u8 0, .int .u8 0, .int .u8 0, .int .u8 0, .int .u8 0, .int .u8 0, .int .u8 0, .int .u8 0, .int .u8 0, .int .u8 0, .int .u8 0, .int .u8 0, .int .u8 0, .int .u8 0, .int .u8 0, .int .u8 0, .int .u8 0, .int .u8 0, .int .u8 0, .int .u8 0, .int .u8 0, .int .u8 0, .int .u8 0, .int .u8 0, .int .u8 0, .int .u8 0, .int .u8 0, .int .u8 0, .int .u8 0, .int .u8 0, .int .u8 0].toArray) := by kernel_rfl
theorem z63tu : (Tryz.prog.info? 63).bind (·.zero) = some (.agg [.int .i64 0, .slice none 0 0, .slice none 0 0, .slice none 0 0].toArray) := by kernel_rfl
theorem z103tu : (Tryz.prog.info? 103).bind (·.zero) = some (.agg [.string ByteArray.empty, .slice none 0 0].toArray) := by kernel_rfl
theorem z106tu : (Tryz.prog.info? 106).bind (·.zero) = some (.agg [.int .i64 0, .int .i64 0, .int .i64 0, .int .i64 0].toArray) := by kernel_rfl
theorem z109tu : (Tryz.prog.info? 109).bind (·.zero) = some (.agg [.int .i64 0, .int .i64 0, .string ByteArray.empty].toArray) := by kernel_rfl

set_option maxHeartbeats 4000000 in
theorem tusers_w (rb : Nat) (u0 : Value) (l0 : List Int) (w : World) (a : Option Addr) (n c : Nat) (l : List Int) (bd : Bool) (hb : w.heap[rb]? = some (row 76 [.slice a n c, .bool bd])) (hfs : Fx [factB u0 l0] w rb) (hD : ∀ W, SlB W u0 l0 → SlB W (.slice a n c) l) (hby : Byt l) (hcn : n ≤ c) (hl : l.length ≤ 1099511627776) :
    Calls Tryz.prog 87 #[.pointer (some ⟨rb, 0, none⟩)] w fun e w' => InT 76 w rb u0 l0 (lsF usRF (l, bd)) (VlU) e w' := by
  refine calls_of (args := [.pointer (some ⟨rb, 0, none⟩)]) ([rb]) ([(rb, row 76 [.slice a n c, .bool bd])]) ([factB u0 l0]) Tryz.func87 rfl rfl (okM1 hb hfs) ?_
  refine J_seq ?_
  refine J_region ?_
  refine L_v rfl rfl rfl (V_assign rfl rfl) ?_
  refine L_nil ?_
  change J _ _ _ _
  refine J_seq ?_
  refine J_region ?_
  refine L_v rfl rfl rfl (V_assign rfl rfl) ?_
  refine L_nil ?_
  change J _ _ _ _
  refine J_seq ?_
  refine J_region ?_
  refine L_v rfl rfl rfl (V_move rfl rfl) ?_
  obtain ⟨p1, l1, d1, hr1⟩ : ∃ p l' d, manyF (l, bd) = (p, (l', d)) := ⟨_, _, _, rfl⟩
  refine L_inT 0 (r := (p1, (l1, d1))) rfl rfl rfl rfl rfl rfl tx88tu rfl (fun w1 hw => hr1 ▸ tmany_w rb u0 l0 w1 _ _ _ _ _ (hw.at (i := 0) rfl) (fxT (i := 0) hw rfl) hD hby hcn hl) (fun v1 fs1 a1 n1 c1 hV1 hc1 hD1 hnw1 => ?_)
  obtain ⟨rfl, rfl⟩ := hV1
  have hby1 : Byt l1 := by have h9 := agM.byt (s := (l, bd)) hby; rw [hr1] at h9; exact h9
  have hl1 : l1.length ≤ 1099511627776 := by have h9 := agM.short (s := (l, bd)) (B := 1099511627776) hl; rw [hr1] at h9; exact h9
  have hp1 : p1 ≤ 4096 := by have h9 := many_le (l, bd); rw [hr1] at h9; exact h9
  refine L_v rfl rfl rfl (V_assign rfl rfl) ?_
  refine L_nil ?_
  change J _ _ _ _
  refine J_seq ?_
  refine J_seq ?_
  refine J_region ?_
  refine L_v rfl rfl rfl (V_assign rfl rfl) ?_
  refine L_nil ?_
  change J _ _ _ _
  refine J_block ?_
  refine J_loop (X := Nat × OwnR × List (Us × Value) × (Option Addr × Nat × Nat) × List Int × Bool) (fun x => { env := [(0, .pointer (some ⟨rb, 0, none⟩)), (3, ownV x.2.1 x.1), (4, vi p1), (5, vi (x.1 : Int))], mem := (rb, row 76 [.slice x.2.2.2.1.1 x.2.2.2.1.2.1 x.2.2.2.1.2.2, .bool x.2.2.2.2.2]) :: ownM 103 x.2.1 (x.2.2.1.map usW).flatten, facts := [factB u0 l0] ++ x.2.2.1.map usF }) (fun x => x.1 ≤ p1.toNat ∧ x.2.2.1.length = x.1 ∧ OwnC 2 x.2.1 x.1 (x.2.2.1.map usW).flatten ∧ (∀ W, SlB W u0 l0 → SlB W (.slice x.2.2.2.1.1 x.2.2.2.1.2.1 x.2.2.2.1.2.2) x.2.2.2.2.1) ∧ Byt x.2.2.2.2.1 ∧ x.2.2.2.1.2.1 ≤ x.2.2.2.1.2.2 ∧ x.2.2.2.2.1.length ≤ 1099511627776 ∧ loopF usRF (p1.toNat - x.1) (x.2.2.2.2.1, x.2.2.2.2.2) (x.2.2.1.map Prod.fst) = loopF usRF p1.toNat (l1, d1) [] ∧ ∀ f ∈ x.2.2.1.map usF, ∀ k, f.fp k → w.heap.size ≤ k) (fun x => p1.toNat - x.1) (0, none, [], (a1, n1, c1), l1, d1) ⟨Nat.zero_le _, rfl, ⟨rfl, rfl⟩, hD1, hby1, hc1, hl1, rfl, fun f hf => by cases hf⟩ ⟨⟨rfl, rfl, rfl, rfl, trivial⟩, List.Sublist.refl _, fun f hf => hf, rfl⟩ ?_
  rintro ⟨i, q, acc, ⟨a', n', c'⟩, l', d'⟩ ⟨hi, hal, hq, hD', hby', hc', hl', hR, hN3⟩
  simp only at hi hal hq hD' hby' hc' hl' hR hN3 ⊢
  rcases d' with _ | _
  ·
    refine J_seq ?_
    refine J_seq ?_
    refine J_region ?_
    refine L_v rfl rfl rfl (V_move rfl rfl) ?_
    refine L_v rfl rfl rfl (V_move rfl rfl) ?_
    refine L_v rfl rfl rfl (V_lss rfl rfl rfl (by first | exact decide_eq_true (by omega) | exact decide_eq_false (by omega) | rfl)) ?_
    refine L_v rfl rfl rfl (V_move rfl rfl) ?_
    refine L_split 16 rfl (fun h1 => ?_) (fun h1 => ?_)
    ·
      first | (have h1 := of_decide_eq_true h1) | (have h1 := of_decide_eq_false h1) | skip
      refine L_wv rfl rfl rfl rfl rfl rfl (V_move rfl rfl) ?_
      refine L_wv rfl rfl rfl rfl rfl rfl (V_nilCheck rfl rfl) ?_
      refine L_wv rfl rfl rfl rfl rfl rfl (V_fieldAddr rfl rfl Tryz.underlying76 rfl sz4tu rfl) ?_
      refine L_wv rfl rfl rfl rfl rfl rfl (V_load1 0 rfl rfl rfl Tryz.underlying4 rfl (by first | rfl | exact dg_get (by omega) (by omega))) ?_
      refine L_wv rfl rfl rfl rfl rfl rfl (V_not rfl rfl rfl) ?_
      first | refine L_v rfl rfl rfl (V_pickT rfl rfl rfl) ?_ | refine L_v rfl rfl rfl (V_pickF rfl rfl rfl) ?_
      refine L_nil ?_
      change J _ _ _ _
      refine J_true rfl ?_
      refine J_skip ?_
      change J _ _ _ _
      refine J_seq ?_
      refine J_block ?_
      refine J_seq ?_
      refine J_region ?_
      refine L_v rfl rfl rfl (V_build (vs := []) rfl rfl bzU) ?_
      refine L_alloc rfl rfl rfl rfl z103tu (fun b9 => ?_)
      refine L_pk ((rb, row 76 [.slice a' n' c', .bool false]) :: (b9, row 103 (usV (⟨#[]⟩, []) (.slice none 0 0))) :: ownM 103 q (acc.map usW).flatten) (Pk.of_perm pk2 (List.Sublist.refl _)) ?_
      refine L_storeW 1 rfl rfl rfl rfl rfl rfl (szd sz103tu (by kernel_rfl)) (all_one (by kernel_rfl)) (by kernel_rfl) ?_
      refine L_nil ?_
      change J _ _ _ _
      refine J_seq ?_
      refine J_le (st' := { env := [(0, .pointer (some ⟨rb, 0, none⟩)), (3, ownV q i), (4, vi p1), (5, vi (i : Int)), (6, .pointer (some ⟨b9, 0, none⟩))], mem := (rb, row 76 [.slice a' n' c', .bool false]) :: (b9, row 103 (usV (⟨#[]⟩, []) (.slice none 0 0))) :: ownM 103 q (acc.map usW).flatten, facts := [factB u0 l0] ++ acc.map usF }) ⟨⟨rfl, rfl, rfl, rfl, rfl, trivial⟩, List.Sublist.refl _, fun f hf => hf, rfl⟩ ?_
      refine J_region ?_
      refine L_v rfl rfl rfl (V_move rfl rfl) ?_
      obtain ⟨p2, l2, d2, hr2⟩ : ∃ p l'' d, sF (l', false) = (p, (l'', d)) := ⟨_, _, _, rfl⟩
      refine L_inT 0 (r := (p2, (l2, d2))) rfl rfl rfl rfl rfl rfl tx65tu rfl (fun w1 hw => hr2 ▸ ts_w rb u0 l0 w1 _ _ _ _ _ (hw.at (i := 0) rfl) (fxT (i := 0) hw rfl) hD' hby' hc' hl') (fun v2 fs2 a2 n2 c2 hV2 hc2 hD2 hnw2 => ?_)
      obtain ⟨rfl, rfl⟩ := hV2
      have hby2 : Byt l2 := by have h9 := agS.byt (s := (l', false)) hby'; rw [hr2] at h9; exact h9
      have hl2 : l2.length ≤ 1099511627776 := by have h9 := agS.short (s := (l', false)) (B := 1099511627776) hl'; rw [hr2] at h9; exact h9
      refine L_v rfl rfl rfl (V_fieldAddr rfl rfl Tryz.underlying103 rfl sz9tu rfl) ?_
      refine L_store1 1 (l' := usV (p2, []) (.slice none 0 0)) rfl rfl rfl rfl rfl rfl rfl sz9tu (Nat.le_of_ble_eq_true (by kernel_rfl)) (by kernel_rfl) ?_
      refine L_nil ?_
      change J _ _ _ _
      refine J_seq ?_
      refine J_region ?_
      refine L_v rfl rfl rfl (V_move rfl rfl) ?_
      obtain ⟨p3, l3, d3, hr3⟩ : ∃ p l' d, manyF (l2, d2) = (p, (l', d)) := ⟨_, _, _, rfl⟩
      refine L_inT 0 (r := (p3, (l3, d3))) rfl rfl rfl rfl rfl rfl tx88tu rfl (fun w1 hw => hr3 ▸ tmany_w rb u0 l0 w1 _ _ _ _ _ (hw.at (i := 0) rfl) (fxT (i := 0) hw rfl) hD2 hby2 hc2 hl2) (fun v3 fs3 a3 n3 c3 hV3 hc3 hD3 hnw3 => ?_)
      obtain ⟨rfl, rfl⟩ := hV3
      have hby3 : Byt l3 := by have h9 := agM.byt (s := (l2, d2)) hby2; rw [hr3] at h9; exact h9
      have hl3 : l3.length ≤ 1099511627776 := by have h9 := agM.short (s := (l2, d2)) (B := 1099511627776) hl2; rw [hr3] at h9; exact h9
      have hp3 : p3 ≤ 4096 := by have h9 := many_le (l2, d2); rw [hr3] at h9; exact h9
      refine L_v rfl rfl rfl (V_assign rfl rfl) ?_
      refine L_nil ?_
      change J _ _ _ _
      refine J_seq ?_
      refine J_seq ?_
      refine J_region ?_
      refine L_v rfl rfl rfl (V_assign rfl rfl) ?_
      refine L_nil ?_
      change J _ _ _ _
      refine J_block ?_
      refine J_loop (X := Nat × OwnR × List Vr × (Option Addr × Nat × Nat) × List Int × Bool) (fun x => { env := [(0, .pointer (some ⟨rb, 0, none⟩)), (3, ownV q i), (4, vi p1), (5, vi (i : Int)), (6, .pointer (some ⟨b9, 0, none⟩)), (7, vi p3), (8, vi (x.1 : Int))], mem := (rb, row 76 [.slice x.2.2.2.1.1 x.2.2.2.1.2.1 x.2.2.2.1.2.2, .bool x.2.2.2.2.2]) :: (b9, row 103 (usV (p2, []) (ownV x.2.1 x.1))) :: (ownM 103 q (acc.map usW).flatten ++ ownM 109 x.2.1 (x.2.2.1.map vrV).flatten), facts := [factB u0 l0] ++ acc.map usF }) (fun x => x.1 ≤ p3.toNat ∧ x.2.2.1.length = x.1 ∧ OwnC 3 x.2.1 x.1 (x.2.2.1.map vrV).flatten ∧ (∀ W, SlB W u0 l0 → SlB W (.slice x.2.2.2.1.1 x.2.2.2.1.2.1 x.2.2.2.1.2.2) x.2.2.2.2.1) ∧ Byt x.2.2.2.2.1 ∧ x.2.2.2.1.2.1 ≤ x.2.2.2.1.2.2 ∧ x.2.2.2.2.1.length ≤ 1099511627776 ∧ loopF vrF (p3.toNat - x.1) (x.2.2.2.2.1, x.2.2.2.2.2) x.2.2.1 = loopF vrF p3.toNat (l3, d3) []) (fun x => p3.toNat - x.1) (0, none, [], (a3, n3, c3), l3, d3) ⟨Nat.zero_le _, rfl, ⟨rfl, rfl⟩, hD3, hby3, hc3, hl3, rfl⟩ ⟨⟨rfl, rfl, rfl, rfl, rfl, rfl, rfl, trivial⟩, (by show List.Sublist (_ :: _ :: (ownM 103 q (acc.map usW).flatten ++ [])) _; rw [List.append_nil]; exact List.Sublist.refl _), (fun f hf => List.mem_append_left _ (List.mem_append_left _ hf)), rfl⟩ ?_
      rintro ⟨j, q2, vs, ⟨a7, n7, c7⟩, l7, d7⟩ ⟨hj, hvl, hq2, hD7, hby7, hc7, hl7, hR2⟩
      simp only at hj hvl hq2 hD7 hby7 hc7 hl7 hR2 ⊢
      rcases d7 with _ | _
      ·
        refine J_seq ?_
        refine J_seq ?_
        refine J_region ?_
        refine L_v rfl rfl rfl (V_move rfl rfl) ?_
        refine L_v rfl rfl rfl (V_move rfl rfl) ?_
        refine L_v rfl rfl rfl (V_lss rfl rfl rfl (by first | exact decide_eq_true (by omega) | exact decide_eq_false (by omega) | rfl)) ?_
        refine L_v rfl rfl rfl (V_move rfl rfl) ?_
        refine L_split 34 rfl (fun h2 => ?_) (fun h2 => ?_)
        ·
          first | (have h2 := of_decide_eq_true h2) | (have h2 := of_decide_eq_false h2) | skip
          refine L_wv rfl rfl rfl rfl rfl rfl (V_move rfl rfl) ?_
          refine L_wv rfl rfl rfl rfl rfl rfl (V_nilCheck rfl rfl) ?_
          refine L_wv rfl rfl rfl rfl rfl rfl (V_fieldAddr rfl rfl Tryz.underlying76 rfl sz4tu rfl) ?_
          refine L_wv rfl rfl rfl rfl rfl rfl (V_load1 0 rfl rfl rfl Tryz.underlying4 rfl (by first | rfl | exact dg_get (by omega) (by omega))) ?_
          refine L_wv rfl rfl rfl rfl rfl rfl (V_not rfl rfl rfl) ?_
          first | refine L_v rfl rfl rfl (V_pickT rfl rfl rfl) ?_ | refine L_v rfl rfl rfl (V_pickF rfl rfl rfl) ?_
          refine L_nil ?_
          change J _ _ _ _
          refine J_true rfl ?_
          refine J_skip ?_
          change J _ _ _ _
          refine J_seq ?_
          refine J_block ?_
          refine J_seq ?_
          refine J_region ?_
          refine L_v rfl rfl rfl (V_build (vs := []) rfl rfl bzV) ?_
          refine L_alloc rfl rfl rfl rfl z109tu (fun b11 => ?_)
          refine L_pk ((rb, row 76 [.slice a7 n7 c7, .bool false]) :: (b9, row 103 (usV (p2, []) (ownV q2 j))) :: (b11, row 109 (vrV (0, 0, ⟨#[]⟩))) :: (ownM 103 q (acc.map usW).flatten ++ ownM 109 q2 (vs.map vrV).flatten)) (Pk.of_perm pk3 (List.Sublist.refl _)) ?_
          refine L_storeW 2 rfl rfl rfl rfl rfl rfl (szd sz109tu (by kernel_rfl)) (all_one (by kernel_rfl)) (by kernel_rfl) ?_
          refine L_nil ?_
          change J _ _ _ _
          refine J_seq ?_
          refine J_region ?_
          refine L_v rfl rfl rfl (V_move rfl rfl) ?_
          obtain ⟨p4, l4, d4, hr4⟩ : ∃ p l' d, cF (l7, false) = (p, (l', d)) := ⟨_, _, _, rfl⟩
          refine L_inT 0 (r := (p4, (l4, d4))) rfl rfl rfl rfl rfl rfl tx64tu rfl (fun w1 hw => hr4 ▸ tn_w rb u0 l0 w1 _ _ _ _ _ (hw.at (i := 0) rfl) (fxT (i := 0) hw rfl) hD7 hby7 hc7 hl7) (fun v4 fs4 a4 n4 c4 hV4 hc4 hD4 hnw4 => ?_)
          obtain ⟨rfl, rfl⟩ := hV4
          have hby4 : Byt l4 := by have h9 := agC.byt (s := (l7, false)) hby7; rw [hr4] at h9; exact h9
          have hl4 : l4.length ≤ 1099511627776 := by have h9 := agC.short (s := (l7, false)) (B := 1099511627776) hl7; rw [hr4] at h9; exact h9
          refine L_v rfl rfl rfl (V_fieldAddr rfl rfl Tryz.underlying109 rfl sz3tu rfl) ?_
          refine L_store1 2 (l' := vrV (p4, 0, ⟨#[]⟩)) rfl rfl rfl rfl rfl rfl rfl sz3tu (Nat.le_of_ble_eq_true (by kernel_rfl)) (by kernel_rfl) ?_
          refine L_nil ?_
          change J _ _ _ _
          refine J_seq ?_
          refine J_region ?_
          refine L_v rfl rfl rfl (V_move rfl rfl) ?_
          obtain ⟨p5, l5, d5, hr5⟩ : ∃ p l' d, cF (l4, d4) = (p, (l', d)) := ⟨_, _, _, rfl⟩
          refine L_inT 0 (r := (p5, (l5, d5))) rfl rfl rfl rfl rfl rfl tx64tu rfl (fun w1 hw => hr5 ▸ tn_w rb u0 l0 w1 _ _ _ _ _ (hw.at (i := 0) rfl) (fxT (i := 0) hw rfl) hD4 hby4 hc4 hl4) (fun v5 fs5 a5 n5 c5 hV5 hc5 hD5 hnw5 => ?_)
          obtain ⟨rfl, rfl⟩ := hV5
          have hby5 : Byt l5 := by have h9 := agC.byt (s := (l4, d4)) hby4; rw [hr5] at h9; exact h9
          have hl5 : l5.length ≤ 1099511627776 := by have h9 := agC.short (s := (l4, d4)) (B := 1099511627776) hl4; rw [hr5] at h9; exact h9
          refine L_v rfl rfl rfl (V_assign rfl rfl) ?_
          refine L_nil ?_
          change J _ _ _ _
          refine J_seq ?_
          refine J_region ?_
          refine L_v rfl rfl rfl (V_move rfl rfl) ?_
          refine L_v rfl rfl rfl (V_fieldAddr rfl rfl Tryz.underlying109 rfl sz107tu rfl) ?_
          refine L_store1 2 (l' := vrV (p4, p5, ⟨#[]⟩)) rfl rfl rfl rfl rfl rfl rfl sz107tu (Nat.le_of_ble_eq_true (by kernel_rfl)) (by kernel_rfl) ?_
          refine L_nil ?_
          change J _ _ _ _
          refine J_seq ?_
          refine J_region ?_
          refine L_v rfl rfl rfl (V_move rfl rfl) ?_
          obtain ⟨p6, l6, d6, hr6⟩ : ∃ p l' d, sF (l5, d5) = (p, (l', d)) := ⟨_, _, _, rfl⟩
          refine L_inT 0 (r := (p6, (l6, d6))) rfl rfl rfl rfl rfl rfl tx65tu rfl (fun w1 hw => hr6 ▸ ts_w rb u0 l0 w1 _ _ _ _ _ (hw.at (i := 0) rfl) (fxT (i := 0) hw rfl) hD5 hby5 hc5 hl5) (fun v6 fs6 a6 n6 c6 hV6 hc6 hD6 hnw6 => ?_)
          obtain ⟨rfl, rfl⟩ := hV6
          have hby6 : Byt l6 := by have h9 := agS.byt (s := (l5, d5)) hby5; rw [hr6] at h9; exact h9
          have hl6 : l6.length ≤ 1099511627776 := by have h9 := agS.short (s := (l5, d5)) (B := 1099511627776) hl5; rw [hr6] at h9; exact h9
          refine L_v rfl rfl rfl (V_fieldAddr rfl rfl Tryz.underlying109 rfl sz9tu rfl) ?_
          refine L_store1 2 (l' := vrV (p4, p5, p6)) rfl rfl rfl rfl rfl rfl rfl sz9tu (Nat.le_of_ble_eq_true (by kernel_rfl)) (by kernel_rfl) ?_
          refine L_nil ?_
          change J _ _ _ _
          refine J_region ?_
          refine L_v rfl rfl rfl (V_fieldAddr rfl rfl Tryz.underlying103 rfl sz101tu rfl) ?_
          refine L_v rfl rfl rfl (V_load1 1 rfl rfl rfl Tryz.underlying101 rfl (by first | rfl | exact dg_get (by omega) (by omega))) ?_
          refine L_v rfl rfl rfl (V_loadW 2 rfl rfl rfl Tryz.underlying109 rfl (szd sz109tu (by kernel_rfl))) ?_
          refine L_buildSlice (vs := [(0, .agg (vrV (p4, p5, p6)).toArray)]) (l := vrV (p4, p5, p6)) rfl rfl rfl rfl rfl (bsV _) (fun b10 => ?_)
          refine L_appN ((rb, row 76 [.slice a6 n6 c6, .bool d6]) :: (b9, row 103 (usV (p2, []) (ownV q2 j))) :: (b11, row 109 (vrV (p4, p5, p6))) :: ownM 103 q (acc.map usW).flatten) [(b10, row 109 (vrV (p4, p5, p6)))] q2 (vs.map vrV).flatten (m := 1) (news := vrV (p4, p5, p6)) (n' := j + 1) (ks' := ((vs ++ [(p4, p5, p6)]).map vrV).flatten) rfl rfl rfl rfl rfl Tryz.underlying101 elV memA hq2 (fun w1 hw => src_C Tryz.underlying101 (SlC.in hw (ks := vrV (p4, p5, p6)) (r := []) (fz := (0, 0)) (List.mem_append_right _ (by rw [List.append_nil]; exact List.mem_singleton.2 rfl)) rfl 1) (all_one (by kernel_rfl))) rfl (mapf_app vrV vs (p4, p5, p6)) (by omega) (by omega) (fun q5 hq5 => ?_)
          refine L_v rfl rfl rfl (V_fieldAddr rfl rfl Tryz.underlying103 rfl sz101tu rfl) ?_
          refine L_store1 1 (l' := usV (p2, []) (ownV q5 (j + 1))) rfl rfl rfl rfl rfl rfl rfl sz101tu (Nat.le_of_ble_eq_true (by kernel_rfl)) (by kernel_rfl) ?_
          refine L_nil ?_
          change J _ _ _ _
          refine J_region ?_
          refine L_v rfl rfl rfl (V_move rfl rfl) ?_
          refine L_v rfl rfl rfl (V_add rfl rfl rfl (by first | exact Go.IntWalk.i64_in _ (by omega) | rfl)) ?_
          refine L_v rfl rfl rfl (V_assign rfl rfl) ?_
          refine L_nil ?_
          exact ⟨(j + 1, q5, vs ++ [(p4, p5, p6)], (a6, n6, c6), l6, d6), ⟨by show j + 1 ≤ p3.toNat; omega, by show (vs ++ [(p4, p5, p6)]).length = j + 1; simp [hvl], hq5, hD6, hby6, hc6, hl6, loop_go (by omega) hR2 (prF_e hr4 (prF_e hr5 hr6))⟩, by show p3.toNat - (j + 1) < p3.toNat - j; omega, ⟨rfl, rfl, rfl, rfl, rfl, rfl, rfl, trivial⟩, List.Sublist.cons_cons _ (List.Sublist.cons_cons _ (List.Sublist.cons _ (List.Sublist.append (List.Sublist.refl _) (List.sublist_append_left _ _)))), (fun f hf => List.mem_append_left _ (List.mem_append_left _ (List.mem_append_left _ hf))), rfl⟩
        ·
          first | (have h2 := of_decide_eq_true h2) | (have h2 := of_decide_eq_false h2) | skip
          refine L_skip rfl rfl rfl rfl rfl rfl rfl ?_
          refine L_skip rfl rfl rfl rfl rfl rfl rfl ?_
          refine L_skip rfl rfl rfl rfl rfl rfl rfl ?_
          refine L_skip rfl rfl rfl rfl rfl rfl rfl ?_
          refine L_skip rfl rfl rfl rfl rfl rfl rfl ?_
          first | refine L_v rfl rfl rfl (V_pickT rfl rfl rfl) ?_ | refine L_v rfl rfl rfl (V_pickF rfl rfl rfl) ?_
          refine L_nil ?_
          change J _ _ _ _
          refine J_false rfl ?_
          refine J_exit ?_
          change J _ _ _ _
          refine J_toFactD ((rb, row 76 [.slice a7 n7 c7, .bool false]) :: (b9, row 103 (usV (p2, []) (ownV q2 j))) :: ownM 103 q (acc.map usW).flatten) rfl hq2 (fun hfp => ?_)
          subst hvl
          refine J_region ?_
          refine L_v rfl rfl rfl (V_move rfl rfl) ?_
          refine L_v rfl rfl rfl (V_loadW 1 rfl rfl rfl Tryz.underlying103 rfl (szd sz103tu (by kernel_rfl))) ?_
          refine L_buildSlice (vs := [(0, .agg (usW ((p2, vs), ownV q2 vs.length)).toArray)]) (l := usW ((p2, vs), ownV q2 vs.length)) rfl rfl rfl rfl rfl (bsU _) (fun b10 => ?_)
          refine L_appN [(rb, row 76 [.slice a7 n7 c7, .bool false]), (b9, row 103 (usV (p2, []) (ownV q2 vs.length)))] [(b10, row 103 (usW ((p2, vs), ownV q2 vs.length)))] q (acc.map usW).flatten (m := 1) (news := usW ((p2, vs), ownV q2 vs.length)) (n' := i + 1) (ks' := ((acc ++ [((p2, vs), ownV q2 vs.length)]).map usW).flatten) rfl rfl rfl rfl rfl Tryz.underlying59 elU rfl hq (fun w1 hw => src_C Tryz.underlying59 (SlC.in hw (ks := usW ((p2, vs), ownV q2 vs.length)) (r := []) (fz := (0, 0)) (List.mem_append_right _ (by rw [List.append_nil]; exact List.mem_singleton.2 rfl)) rfl 1) (all_one (by kernel_rfl))) rfl (mapf_app usW acc ((p2, vs), ownV q2 vs.length)) (by omega) (by omega) (fun q' hq' => ?_)
          refine L_v rfl rfl rfl (V_assign rfl rfl) ?_
          refine L_nil ?_
          change J _ _ _ _
          refine J_region ?_
          refine L_v rfl rfl rfl (V_move rfl rfl) ?_
          refine L_v rfl rfl rfl (V_add rfl rfl rfl (by first | exact Go.IntWalk.i64_in _ (by omega) | rfl)) ?_
          refine L_v rfl rfl rfl (V_assign rfl rfl) ?_
          refine L_nil ?_
          have hjp : vs.length = p3.toNat := by omega
          have e8 : usRF (l', false) = ((p2, vs), (l7, false)) := prF_e hr2 ((lsF_e hr3).trans (loop_end (by rw [← hjp] at hR2 ⊢; exact hR2)))
          exact ⟨(i + 1, q', acc ++ [((p2, vs), ownV q2 vs.length)], (a7, n7, c7), l7, false), ⟨by show i + 1 ≤ p1.toNat; omega, by show (acc ++ [_]).length = i + 1; simp [hal], hq', hD7, hby7, hc7, hl7, by show loopF usRF _ _ ((acc ++ [_]).map Prod.fst) = _; rw [List.map_append]; exact loop_go (by omega) hR e8, fun f hf => by
            rw [List.map_append] at hf
            rcases List.mem_append.1 hf with hf | hf
            · exact hN3 f hf
            · obtain rfl := List.mem_singleton.1 hf
              intro k hk
              rcases (hfp k hk).1 with h9 | h9
              · exact h9
              · exact absurd (List.mem_cons.2 (.inl (List.mem_singleton.1 h9))) (hfp k hk).2⟩, by show p1.toNat - (i + 1) < p1.toNat - i; omega, ⟨rfl, rfl, rfl, rfl, trivial⟩, List.Sublist.cons_cons _ (List.Sublist.cons _ (List.sublist_append_left _ _)), us_app3, rfl⟩
      ·
        refine J_seq ?_
        refine J_seq ?_
        refine J_region ?_
        refine L_v rfl rfl rfl (V_move rfl rfl) ?_
        refine L_v rfl rfl rfl (V_move rfl rfl) ?_
        refine L_v rfl rfl rfl (V_lss rfl rfl rfl (by first | exact decide_eq_true (by omega) | exact decide_eq_false (by omega) | rfl)) ?_
        refine L_v rfl rfl rfl (V_move rfl rfl) ?_
        refine L_split 34 rfl (fun h2 => ?_) (fun h2 => ?_)
        ·
          first | (have h2 := of_decide_eq_true h2) | (have h2 := of_decide_eq_false h2) | skip
          refine L_wv rfl rfl rfl rfl rfl rfl (V_move rfl rfl) ?_
          refine L_wv rfl rfl rfl rfl rfl rfl (V_nilCheck rfl rfl) ?_
          refine L_wv rfl rfl rfl rfl rfl rfl (V_fieldAddr rfl rfl Tryz.underlying76 rfl sz4tu rfl) ?_
          refine L_wv rfl rfl rfl rfl rfl rfl (V_load1 0 rfl rfl rfl Tryz.underlying4 rfl (by first | rfl | exact dg_get (by omega) (by omega))) ?_
          refine L_wv rfl rfl rfl rfl rfl rfl (V_not rfl rfl rfl) ?_
          first | refine L_v rfl rfl rfl (V_pickT rfl rfl rfl) ?_ | refine L_v rfl rfl rfl (V_pickF rfl rfl rfl) ?_
          refine L_nil ?_
          change J _ _ _ _
          refine J_false rfl ?_
          refine J_exit ?_
          change J _ _ _ _
          refine J_toFactD ((rb, row 76 [.slice a7 n7 c7, .bool true]) :: (b9, row 103 (usV (p2, []) (ownV q2 j))) :: ownM 103 q (acc.map usW).flatten) rfl hq2 (fun hfp => ?_)
          subst hvl
          refine J_region ?_
          refine L_v rfl rfl rfl (V_move rfl rfl) ?_
          refine L_v rfl rfl rfl (V_loadW 1 rfl rfl rfl Tryz.underlying103 rfl (szd sz103tu (by kernel_rfl))) ?_
          refine L_buildSlice (vs := [(0, .agg (usW ((p2, vs), ownV q2 vs.length)).toArray)]) (l := usW ((p2, vs), ownV q2 vs.length)) rfl rfl rfl rfl rfl (bsU _) (fun b10 => ?_)
          refine L_appN [(rb, row 76 [.slice a7 n7 c7, .bool true]), (b9, row 103 (usV (p2, []) (ownV q2 vs.length)))] [(b10, row 103 (usW ((p2, vs), ownV q2 vs.length)))] q (acc.map usW).flatten (m := 1) (news := usW ((p2, vs), ownV q2 vs.length)) (n' := i + 1) (ks' := ((acc ++ [((p2, vs), ownV q2 vs.length)]).map usW).flatten) rfl rfl rfl rfl rfl Tryz.underlying59 elU rfl hq (fun w1 hw => src_C Tryz.underlying59 (SlC.in hw (ks := usW ((p2, vs), ownV q2 vs.length)) (r := []) (fz := (0, 0)) (List.mem_append_right _ (by rw [List.append_nil]; exact List.mem_singleton.2 rfl)) rfl 1) (all_one (by kernel_rfl))) rfl (mapf_app usW acc ((p2, vs), ownV q2 vs.length)) (by omega) (by omega) (fun q' hq' => ?_)
          refine L_v rfl rfl rfl (V_assign rfl rfl) ?_
          refine L_nil ?_
          change J _ _ _ _
          refine J_region ?_
          refine L_v rfl rfl rfl (V_move rfl rfl) ?_
          refine L_v rfl rfl rfl (V_add rfl rfl rfl (by first | exact Go.IntWalk.i64_in _ (by omega) | rfl)) ?_
          refine L_v rfl rfl rfl (V_assign rfl rfl) ?_
          refine L_nil ?_
          have e8 : usRF (l', false) = ((p2, vs), (l7, true)) := prF_e hr2 ((lsF_e hr3).trans (loop_stop hR2))
          exact ⟨(i + 1, q', acc ++ [((p2, vs), ownV q2 vs.length)], (a7, n7, c7), l7, true), ⟨by show i + 1 ≤ p1.toNat; omega, by show (acc ++ [_]).length = i + 1; simp [hal], hq', hD7, hby7, hc7, hl7, by show loopF usRF _ _ ((acc ++ [_]).map Prod.fst) = _; rw [List.map_append]; exact loop_go (by omega) hR e8, fun f hf => by
            rw [List.map_append] at hf
            rcases List.mem_append.1 hf with hf | hf
            · exact hN3 f hf
            · obtain rfl := List.mem_singleton.1 hf
              intro k hk
              rcases (hfp k hk).1 with h9 | h9
              · exact h9
              · exact absurd (List.mem_cons.2 (.inl (List.mem_singleton.1 h9))) (hfp k hk).2⟩, by show p1.toNat - (i + 1) < p1.toNat - i; omega, ⟨rfl, rfl, rfl, rfl, trivial⟩, List.Sublist.cons_cons _ (List.Sublist.cons _ (List.sublist_append_left _ _)), us_app3, rfl⟩
        ·
          first | (have h2 := of_decide_eq_true h2) | (have h2 := of_decide_eq_false h2) | skip
          refine L_skip rfl rfl rfl rfl rfl rfl rfl ?_
          refine L_skip rfl rfl rfl rfl rfl rfl rfl ?_
          refine L_skip rfl rfl rfl rfl rfl rfl rfl ?_
          refine L_skip rfl rfl rfl rfl rfl rfl rfl ?_
          refine L_skip rfl rfl rfl rfl rfl rfl rfl ?_
          first | refine L_v rfl rfl rfl (V_pickT rfl rfl rfl) ?_ | refine L_v rfl rfl rfl (V_pickF rfl rfl rfl) ?_
          refine L_nil ?_
          change J _ _ _ _
          refine J_false rfl ?_
          refine J_exit ?_
          change J _ _ _ _
          refine J_toFactD ((rb, row 76 [.slice a7 n7 c7, .bool true]) :: (b9, row 103 (usV (p2, []) (ownV q2 j))) :: ownM 103 q (acc.map usW).flatten) rfl hq2 (fun hfp => ?_)
          subst hvl
          refine J_region ?_
          refine L_v rfl rfl rfl (V_move rfl rfl) ?_
          refine L_v rfl rfl rfl (V_loadW 1 rfl rfl rfl Tryz.underlying103 rfl (szd sz103tu (by kernel_rfl))) ?_
          refine L_buildSlice (vs := [(0, .agg (usW ((p2, vs), ownV q2 vs.length)).toArray)]) (l := usW ((p2, vs), ownV q2 vs.length)) rfl rfl rfl rfl rfl (bsU _) (fun b10 => ?_)
          refine L_appN [(rb, row 76 [.slice a7 n7 c7, .bool true]), (b9, row 103 (usV (p2, []) (ownV q2 vs.length)))] [(b10, row 103 (usW ((p2, vs), ownV q2 vs.length)))] q (acc.map usW).flatten (m := 1) (news := usW ((p2, vs), ownV q2 vs.length)) (n' := i + 1) (ks' := ((acc ++ [((p2, vs), ownV q2 vs.length)]).map usW).flatten) rfl rfl rfl rfl rfl Tryz.underlying59 elU rfl hq (fun w1 hw => src_C Tryz.underlying59 (SlC.in hw (ks := usW ((p2, vs), ownV q2 vs.length)) (r := []) (fz := (0, 0)) (List.mem_append_right _ (by rw [List.append_nil]; exact List.mem_singleton.2 rfl)) rfl 1) (all_one (by kernel_rfl))) rfl (mapf_app usW acc ((p2, vs), ownV q2 vs.length)) (by omega) (by omega) (fun q' hq' => ?_)
          refine L_v rfl rfl rfl (V_assign rfl rfl) ?_
          refine L_nil ?_
          change J _ _ _ _
          refine J_region ?_
          refine L_v rfl rfl rfl (V_move rfl rfl) ?_
          refine L_v rfl rfl rfl (V_add rfl rfl rfl (by first | exact Go.IntWalk.i64_in _ (by omega) | rfl)) ?_
          refine L_v rfl rfl rfl (V_assign rfl rfl) ?_
          refine L_nil ?_
          have e8 : usRF (l', false) = ((p2, vs), (l7, true)) := prF_e hr2 ((lsF_e hr3).trans (loop_stop hR2))
          exact ⟨(i + 1, q', acc ++ [((p2, vs), ownV q2 vs.length)], (a7, n7, c7), l7, true), ⟨by show i + 1 ≤ p1.toNat; omega, by show (acc ++ [_]).length = i + 1; simp [hal], hq', hD7, hby7, hc7, hl7, by show loopF usRF _ _ ((acc ++ [_]).map Prod.fst) = _; rw [List.map_append]; exact loop_go (by omega) hR e8, fun f hf => by
            rw [List.map_append] at hf
            rcases List.mem_append.1 hf with hf | hf
            · exact hN3 f hf
            · obtain rfl := List.mem_singleton.1 hf
              intro k hk
              rcases (hfp k hk).1 with h9 | h9
              · exact h9
              · exact absurd (List.mem_cons.2 (.inl (List.mem_singleton.1 h9))) (hfp k hk).2⟩, by show p1.toNat - (i + 1) < p1.toNat - i; omega, ⟨rfl, rfl, rfl, rfl, trivial⟩, List.Sublist.cons_cons _ (List.Sublist.cons _ (List.sublist_append_left _ _)), us_app3, rfl⟩
    ·
      first | (have h1 := of_decide_eq_true h1) | (have h1 := of_decide_eq_false h1) | skip
      refine L_skip rfl rfl rfl rfl rfl rfl rfl ?_
      refine L_skip rfl rfl rfl rfl rfl rfl rfl ?_
      refine L_skip rfl rfl rfl rfl rfl rfl rfl ?_
      refine L_skip rfl rfl rfl rfl rfl rfl rfl ?_
      refine L_skip rfl rfl rfl rfl rfl rfl rfl ?_
      first | refine L_v rfl rfl rfl (V_pickT rfl rfl rfl) ?_ | refine L_v rfl rfl rfl (V_pickF rfl rfl rfl) ?_
      refine L_nil ?_
      change J _ _ _ _
      refine J_false rfl ?_
      refine J_exit ?_
      change J _ _ _ _
      refine J_seq ?_
      refine J_region ?_
      refine L_v rfl rfl rfl (V_move rfl rfl) ?_
      refine L_v rfl rfl rfl (V_assign rfl rfl) ?_
      refine L_nil ?_
      change J _ _ _ _
      refine J_ret ?_
      change Kret _ _ _ Exit.ret _
      refine ret1 rfl rfl (RV_t rfl) ?_
      have hip : i = p1.toNat := by omega
      have e9 : lsF usRF (l, bd) = (acc.map Prod.fst, (l', false)) := (lsF_e hr1).trans (loop_end (by rw [hip] at hR; exact hR))
      subst hal
      exact fun w' h => by rw [e9]; exact InT.of h.fr (show VlU (acc.map Prod.fst) (ownV q acc.length) _ from ⟨acc, _, _, rfl, rfl, rfl⟩) (fun f hf => by
        rcases List.mem_cons.1 hf with rfl | hf
        · exact own_fact (T := 103) h rfl (fun x hx => hx) hq
        · exact inFacts h (fun f hf => List.mem_append_right _ hf) hN3 f hf) (h.at (i := 0) rfl) hc' hD' rfl
  ·
    refine J_seq ?_
    refine J_seq ?_
    refine J_region ?_
    refine L_v rfl rfl rfl (V_move rfl rfl) ?_
    refine L_v rfl rfl rfl (V_move rfl rfl) ?_
    refine L_v rfl rfl rfl (V_lss rfl rfl rfl (by first | exact decide_eq_true (by omega) | exact decide_eq_false (by omega) | rfl)) ?_
    refine L_v rfl rfl rfl (V_move rfl rfl) ?_
    refine L_split 16 rfl (fun h1 => ?_) (fun h1 => ?_)
    ·
      first | (have h1 := of_decide_eq_true h1) | (have h1 := of_decide_eq_false h1) | skip
      refine L_wv rfl rfl rfl rfl rfl rfl (V_move rfl rfl) ?_
      refine L_wv rfl rfl rfl rfl rfl rfl (V_nilCheck rfl rfl) ?_
      refine L_wv rfl rfl rfl rfl rfl rfl (V_fieldAddr rfl rfl Tryz.underlying76 rfl sz4tu rfl) ?_
      refine L_wv rfl rfl rfl rfl rfl rfl (V_load1 0 rfl rfl rfl Tryz.underlying4 rfl (by first | rfl | exact dg_get (by omega) (by omega))) ?_
      refine L_wv rfl rfl rfl rfl rfl rfl (V_not rfl rfl rfl) ?_
      first | refine L_v rfl rfl rfl (V_pickT rfl rfl rfl) ?_ | refine L_v rfl rfl rfl (V_pickF rfl rfl rfl) ?_
      refine L_nil ?_
      change J _ _ _ _
      refine J_false rfl ?_
      refine J_exit ?_
      change J _ _ _ _
      refine J_seq ?_
      refine J_region ?_
      refine L_v rfl rfl rfl (V_move rfl rfl) ?_
      refine L_v rfl rfl rfl (V_assign rfl rfl) ?_
      refine L_nil ?_
      change J _ _ _ _
      refine J_ret ?_
      change Kret _ _ _ Exit.ret _
      refine ret1 rfl rfl (RV_t rfl) ?_
      have e9 : lsF usRF (l, bd) = (acc.map Prod.fst, (l', true)) := (lsF_e hr1).trans (loop_stop hR)
      subst hal
      exact fun w' h => by rw [e9]; exact InT.of h.fr (show VlU (acc.map Prod.fst) (ownV q acc.length) _ from ⟨acc, _, _, rfl, rfl, rfl⟩) (fun f hf => by
        rcases List.mem_cons.1 hf with rfl | hf
        · exact own_fact (T := 103) h rfl (fun x hx => hx) hq
        · exact inFacts h (fun f hf => List.mem_append_right _ hf) hN3 f hf) (h.at (i := 0) rfl) hc' hD' rfl
    ·
      first | (have h1 := of_decide_eq_true h1) | (have h1 := of_decide_eq_false h1) | skip
      refine L_skip rfl rfl rfl rfl rfl rfl rfl ?_
      refine L_skip rfl rfl rfl rfl rfl rfl rfl ?_
      refine L_skip rfl rfl rfl rfl rfl rfl rfl ?_
      refine L_skip rfl rfl rfl rfl rfl rfl rfl ?_
      refine L_skip rfl rfl rfl rfl rfl rfl rfl ?_
      first | refine L_v rfl rfl rfl (V_pickT rfl rfl rfl) ?_ | refine L_v rfl rfl rfl (V_pickF rfl rfl rfl) ?_
      refine L_nil ?_
      change J _ _ _ _
      refine J_false rfl ?_
      refine J_exit ?_
      change J _ _ _ _
      refine J_seq ?_
      refine J_region ?_
      refine L_v rfl rfl rfl (V_move rfl rfl) ?_
      refine L_v rfl rfl rfl (V_assign rfl rfl) ?_
      refine L_nil ?_
      change J _ _ _ _
      refine J_ret ?_
      change Kret _ _ _ Exit.ret _
      refine ret1 rfl rfl (RV_t rfl) ?_
      have e9 : lsF usRF (l, bd) = (acc.map Prod.fst, (l', true)) := (lsF_e hr1).trans (loop_stop hR)
      subst hal
      exact fun w' h => by rw [e9]; exact InT.of h.fr (show VlU (acc.map Prod.fst) (ownV q acc.length) _ from ⟨acc, _, _, rfl, rfl, rfl⟩) (fun f hf => by
        rcases List.mem_cons.1 hf with rfl | hf
        · exact own_fact (T := 103) h rfl (fun x hx => hx) hq
        · exact inFacts h (fun f hf => List.mem_append_right _ hf) hN3 f hf) (h.at (i := 0) rfl) hc' hD' rfl

set_option maxHeartbeats 8000000 in
theorem tdr_w (rb : Nat) (u0 : Value) (l0 : List Int) (w : World) (a : Option Addr) (n c : Nat) (l : List Int) (bd : Bool) (hb : w.heap[rb]? = some (row 76 [.slice a n c, .bool bd])) (hfs : Fx [factB u0 l0] w rb) (hD : ∀ W, SlB W u0 l0 → SlB W (.slice a n c) l) (hby : Byt l) (hcn : n ≤ c) (hl : l.length ≤ 1099511627776) :
    Calls Tryz.prog 54 #[.pointer (some ⟨rb, 0, none⟩)] w fun e w' => InT 76 w rb u0 l0 (drF (l, bd)) (Wdr) e w' := by
  refine calls_of (args := [.pointer (some ⟨rb, 0, none⟩)]) ([rb]) ([(rb, row 76 [.slice a n c, .bool bd])]) ([factB u0 l0]) Tryz.func54 rfl rfl (okM1 hb hfs) ?_
  refine J_seq ?_
  refine J_region ?_
  refine L_alloc rfl rfl rfl rfl z63tu (fun b1 => ?_)
  refine L_nil ?_
  change J _ _ _ _
  refine J_seq ?_
  refine J_region ?_
  refine L_v rfl rfl rfl (V_build (vs := []) rfl rfl bzD) ?_
  refine L_alloc rfl rfl rfl rfl z63tu (fun b2 => ?_)
  refine L_storeW 2 rfl rfl rfl rfl rfl rfl (szd sz63tu (by kernel_rfl)) (all_one (by kernel_rfl)) (by kernel_rfl) ?_
  refine L_nil ?_
  change J _ _ _ _
  refine J_seq ?_
  refine J_region ?_
  refine L_v rfl rfl rfl (V_move rfl rfl) ?_
  obtain ⟨p1, l1, d1, hr1⟩ : ∃ p l' d, cF (l, bd) = (p, (l', d)) := ⟨_, _, _, rfl⟩
  refine L_inT 0 (r := (p1, (l1, d1))) rfl rfl rfl rfl rfl rfl tx64tu rfl (fun w1 hw => hr1 ▸ tn_w rb u0 l0 w1 _ _ _ _ _ (hw.at (i := 0) rfl) (fxT (i := 0) hw rfl) hD hby hcn hl) (fun v1 fs1 a1 n1 c1 hV1 hc1 hD1 hnw1 => ?_)
  obtain ⟨rfl, rfl⟩ := hV1
  have hby1 : Byt l1 := by have h9 := agC.byt (s := (l, bd)) hby; rw [hr1] at h9; exact h9
  have hl1 : l1.length ≤ 1099511627776 := by have h9 := agC.short (s := (l, bd)) (B := 1099511627776) hl; rw [hr1] at h9; exact h9
  refine L_v rfl rfl rfl (V_fieldAddr rfl rfl Tryz.underlying63 rfl sz3tu rfl) ?_
  refine L_store1 2 (l' := drV p1 (.slice none 0 0) (.slice none 0 0) (.slice none 0 0)) rfl rfl rfl rfl rfl rfl rfl sz3tu (Nat.le_of_ble_eq_true (by kernel_rfl)) (by kernel_rfl) ?_
  refine L_nil ?_
  change J _ _ _ _
  refine J_seq ?_
  refine J_region ?_
  refine L_v rfl rfl rfl (V_move rfl rfl) ?_
  obtain ⟨p2, l2, d2, hr2⟩ : ∃ p l' d, (lsF usRF) (l1, d1) = (p, (l', d)) := ⟨_, _, _, rfl⟩
  refine L_inT 0 (r := (p2, (l2, d2))) rfl rfl rfl rfl rfl rfl tx87tu rfl (fun w1 hw => hr2 ▸ tusers_w rb u0 l0 w1 _ _ _ _ _ (hw.at (i := 0) rfl) (fxT (i := 0) hw rfl) hD1 hby1 hc1 hl1) (fun v2 fs2 a2 n2 c2 hV2 hc2 hD2 hnw2 => ?_)
  obtain ⟨us, va2, vc2, rfl, rfl, rfl⟩ := hV2
  have hby2 : Byt l2 := by have h9 := (agL agUs).byt (s := (l1, d1)) hby1; rw [hr2] at h9; exact h9
  have hl2 : l2.length ≤ 1099511627776 := by have h9 := (agL agUs).short (s := (l1, d1)) (B := 1099511627776) hl1; rw [hr2] at h9; exact h9
  refine L_v rfl rfl rfl (V_fieldAddr rfl rfl Tryz.underlying63 rfl sz59tu rfl) ?_
  refine L_store1 2 (l' := drV p1 (Sl va2 us.length vc2) (.slice none 0 0) (.slice none 0 0)) rfl rfl rfl rfl rfl rfl rfl sz59tu (Nat.le_of_ble_eq_true (by kernel_rfl)) (by kernel_rfl) ?_
  refine L_nil ?_
  change J _ _ _ _
  refine J_seq ?_
  refine J_region ?_
  refine L_v rfl rfl rfl (V_move rfl rfl) ?_
  obtain ⟨p3, l3, d3, hr3⟩ : ∃ p l' d, manyF (l2, d2) = (p, (l', d)) := ⟨_, _, _, rfl⟩
  refine L_inT 0 (r := (p3, (l3, d3))) rfl rfl rfl rfl rfl rfl tx88tu rfl (fun w1 hw => hr3 ▸ tmany_w rb u0 l0 w1 _ _ _ _ _ (hw.at (i := 0) rfl) (fxT (i := 0) hw rfl) hD2 hby2 hc2 hl2) (fun v3 fs3 a3 n3 c3 hV3 hc3 hD3 hnw3 => ?_)
  obtain ⟨rfl, rfl⟩ := hV3
  have hby3 : Byt l3 := by have h9 := agM.byt (s := (l2, d2)) hby2; rw [hr3] at h9; exact h9
  have hl3 : l3.length ≤ 1099511627776 := by have h9 := agM.short (s := (l2, d2)) (B := 1099511627776) hl2; rw [hr3] at h9; exact h9
  have hp3 : p3 ≤ 4096 := by have h9 := many_le (l2, d2); rw [hr3] at h9; exact h9
  refine L_v rfl rfl rfl (V_assign rfl rfl) ?_
  refine L_nil ?_
  change J _ _ _ _
  refine J_seq ?_
  refine J_seq ?_
  refine J_region ?_
  refine L_v rfl rfl rfl (V_assign rfl rfl) ?_
  refine L_nil ?_
  change J _ _ _ _
  refine J_block ?_
  refine J_loop (X := Nat × OwnR × List Hd × (Option Addr × Nat × Nat) × List Int × Bool) (fun x => { env := [(0, .pointer (some ⟨rb, 0, none⟩)), (2, .pointer (some ⟨b1, 0, none⟩)), (3, .pointer (some ⟨b2, 0, none⟩)), (4, vi p3), (5, vi (x.1 : Int))], mem := [(rb, row 76 [.slice x.2.2.2.1.1 x.2.2.2.1.2.1 x.2.2.2.1.2.2, .bool x.2.2.2.2.2]), (b1, row 63 (drV 0 (.slice none 0 0) (.slice none 0 0) (.slice none 0 0))), (b2, row 63 (drV p1 (Sl va2 us.length vc2) (ownV x.2.1 x.1) (.slice none 0 0)))] ++ ownM 47 x.2.1 (x.2.2.1.map hdV).flatten, facts := [factB u0 l0] ++ (factC 2 (Sl va2 us.length vc2) us.length (us.map usW).flatten :: us.map usF) }) (fun x => x.1 ≤ p3.toNat ∧ x.2.2.1.length = x.1 ∧ OwnC 65 x.2.1 x.1 (x.2.2.1.map hdV).flatten ∧ (∀ W, SlB W u0 l0 → SlB W (.slice x.2.2.2.1.1 x.2.2.2.1.2.1 x.2.2.2.1.2.2) x.2.2.2.2.1) ∧ Byt x.2.2.2.2.1 ∧ x.2.2.2.1.2.1 ≤ x.2.2.2.1.2.2 ∧ x.2.2.2.2.1.length ≤ 1099511627776 ∧ loopF hdF (p3.toNat - x.1) (x.2.2.2.2.1, x.2.2.2.2.2) x.2.2.1 = loopF hdF p3.toNat (l3, d3) []) (fun x => p3.toNat - x.1) (0, none, [], (a3, n3, c3), l3, d3) ⟨Nat.zero_le _, rfl, ⟨rfl, rfl⟩, hD3, hby3, hc3, hl3, rfl⟩ ⟨⟨rfl, rfl, rfl, rfl, rfl, trivial⟩, List.Sublist.refl _, (fun f hf => List.mem_append_left _ hf), rfl⟩ ?_
  rintro ⟨i, q, hs, ⟨a', n', c'⟩, l', d'⟩ ⟨hi, hal, hq, hD', hby', hc', hl', hR⟩
  simp only at hi hal hq hD' hby' hc' hl' hR ⊢
  rcases d' with _ | _
  ·
    refine J_seq ?_
    refine J_seq ?_
    refine J_region ?_
    refine L_v rfl rfl rfl (V_move rfl rfl) ?_
    refine L_v rfl rfl rfl (V_move rfl rfl) ?_
    refine L_v rfl rfl rfl (V_lss rfl rfl rfl (by first | exact decide_eq_true (by omega) | exact decide_eq_false (by omega) | rfl)) ?_
    refine L_v rfl rfl rfl (V_move rfl rfl) ?_
    refine L_split 22 rfl (fun h1 => ?_) (fun h1 => ?_)
    ·
      first | (have h1 := of_decide_eq_true h1) | (have h1 := of_decide_eq_false h1) | skip
      refine L_wv rfl rfl rfl rfl rfl rfl (V_move rfl rfl) ?_
      refine L_wv rfl rfl rfl rfl rfl rfl (V_nilCheck rfl rfl) ?_
      refine L_wv rfl rfl rfl rfl rfl rfl (V_fieldAddr rfl rfl Tryz.underlying76 rfl sz4tu rfl) ?_
      refine L_wv rfl rfl rfl rfl rfl rfl (V_load1 0 rfl rfl rfl Tryz.underlying4 rfl (by first | rfl | exact dg_get (by omega) (by omega))) ?_
      refine L_wv rfl rfl rfl rfl rfl rfl (V_not rfl rfl rfl) ?_
      first | refine L_v rfl rfl rfl (V_pickT rfl rfl rfl) ?_ | refine L_v rfl rfl rfl (V_pickF rfl rfl rfl) ?_
      refine L_nil ?_
      change J _ _ _ _
      refine J_true rfl ?_
      refine J_skip ?_
      change J _ _ _ _
      refine J_seq ?_
      refine J_block ?_
      refine J_seq ?_
      refine J_region ?_
      refine L_v rfl rfl rfl (V_move rfl rfl) ?_
      obtain ⟨p4, l4, d4, hr4⟩ : ∃ p l'' d, hdF (l', false) = (p, (l'', d)) := ⟨_, _, _, rfl⟩
      refine L_inT 0 (r := (p4, (l4, d4))) rfl rfl rfl rfl rfl rfl tx79tu rfl (fun w1 hw => hr4 ▸ thd_w rb u0 l0 w1 _ _ _ _ _ (hw.at (i := 0) rfl) (fxT (i := 0) hw rfl) hD' hby' hc' hl') (fun v4 fs4 a4 n4 c4 hV4 hc4 hD4 hnw4 => ?_)
      obtain ⟨rfl, rfl⟩ := hV4
      have hby4 : Byt l4 := by have h9 := agHd.byt (s := (l', false)) hby'; rw [hr4] at h9; exact h9
      have hl4 : l4.length ≤ 1099511627776 := by have h9 := agHd.short (s := (l', false)) (B := 1099511627776) hl'; rw [hr4] at h9; exact h9
      refine L_alloc rfl rfl rfl rfl z47tu (fun b9 => ?_)
      refine L_pk ((rb, row 76 [.slice a4 n4 c4, .bool d4]) :: (b1, row 63 (drV 0 (.slice none 0 0) (.slice none 0 0) (.slice none 0 0))) :: (b2, row 63 (drV p1 (Sl va2 us.length vc2) (ownV q i) (.slice none 0 0))) :: (b9, row 47 (hdV (0, dz, dz))) :: ownM 47 q (hs.map hdV).flatten) (Pk.of_perm pk4 (List.Sublist.refl _)) ?_
      refine L_storeW 3 rfl rfl rfl rfl rfl rfl (szd sz47tu (by kernel_rfl)) (all_one (by kernel_rfl)) (by kernel_rfl) ?_
      refine L_nil ?_
      change J _ _ _ _
      refine J_region ?_
      refine L_v rfl rfl rfl (V_fieldAddr rfl rfl Tryz.underlying63 rfl sz60tu rfl) ?_
      refine L_v rfl rfl rfl (V_load1 2 rfl rfl rfl Tryz.underlying60 rfl (by first | rfl | exact dg_get (by omega) (by omega))) ?_
      refine L_v rfl rfl rfl (V_loadW 3 rfl rfl rfl Tryz.underlying47 rfl (szd sz47tu (by kernel_rfl))) ?_
      refine L_buildSlice (vs := [(0, .agg (hdV p4).toArray)]) (l := hdV p4) rfl rfl rfl rfl rfl (bsH _) (fun b10 => ?_)
      refine L_appN [(rb, row 76 [.slice a4 n4 c4, .bool d4]), (b1, row 63 (drV 0 (.slice none 0 0) (.slice none 0 0) (.slice none 0 0))), (b2, row 63 (drV p1 (Sl va2 us.length vc2) (ownV q i) (.slice none 0 0))), (b9, row 47 (hdV p4))] [(b10, row 47 (hdV p4))] q (hs.map hdV).flatten (m := 1) (news := hdV p4) (n' := i + 1) (ks' := ((hs ++ [p4]).map hdV).flatten) rfl rfl rfl rfl rfl Tryz.underlying60 elH rfl hq (fun w1 hw => src_C Tryz.underlying60 (SlC.in hw (ks := hdV p4) (r := []) (fz := (0, 0)) (List.mem_append_right _ (by rw [List.append_nil]; exact List.mem_singleton.2 rfl)) rfl 1) (all_one (by kernel_rfl))) rfl (mapf_app hdV hs p4) (by omega) (by omega) (fun q4 hq4 => ?_)
      refine L_v rfl rfl rfl (V_fieldAddr rfl rfl Tryz.underlying63 rfl sz60tu rfl) ?_
      refine L_store1 2 (l' := drV p1 (Sl va2 us.length vc2) (ownV q4 (i + 1)) (.slice none 0 0)) rfl rfl rfl rfl rfl rfl rfl sz60tu (Nat.le_of_ble_eq_true (by kernel_rfl)) (by kernel_rfl) ?_
      refine L_nil ?_
      change J _ _ _ _
      refine J_region ?_
      refine L_v rfl rfl rfl (V_move rfl rfl) ?_
      refine L_v rfl rfl rfl (V_add rfl rfl rfl (by first | exact Go.IntWalk.i64_in _ (by omega) | rfl)) ?_
      refine L_v rfl rfl rfl (V_assign rfl rfl) ?_
      refine L_nil ?_
      exact ⟨(i + 1, q4, hs ++ [p4], (a4, n4, c4), l4, d4), ⟨by show i + 1 ≤ p3.toNat; omega, by show (hs ++ [p4]).length = i + 1; simp [hal], hq4, hD4, hby4, hc4, hl4, loop_go (by omega) hR hr4⟩, by show p3.toNat - (i + 1) < p3.toNat - i; omega, ⟨rfl, rfl, rfl, rfl, rfl, trivial⟩, List.Sublist.cons_cons _ (List.Sublist.cons_cons _ (List.Sublist.cons_cons _ (List.Sublist.cons _ (List.sublist_append_left _ _)))), (fun f hf => List.mem_append_left _ hf), rfl⟩
    ·
      first | (have h1 := of_decide_eq_true h1) | (have h1 := of_decide_eq_false h1) | skip
      refine L_skip rfl rfl rfl rfl rfl rfl rfl ?_
      refine L_skip rfl rfl rfl rfl rfl rfl rfl ?_
      refine L_skip rfl rfl rfl rfl rfl rfl rfl ?_
      refine L_skip rfl rfl rfl rfl rfl rfl rfl ?_
      refine L_skip rfl rfl rfl rfl rfl rfl rfl ?_
      first | refine L_v rfl rfl rfl (V_pickT rfl rfl rfl) ?_ | refine L_v rfl rfl rfl (V_pickF rfl rfl rfl) ?_
      refine L_nil ?_
      change J _ _ _ _
      refine J_false rfl ?_
      refine J_exit ?_
      change J _ _ _ _
      refine J_seq ?_
      refine J_toFactD ([(rb, row 76 [.slice a' n' c', .bool false]), (b1, row 63 (drV 0 (.slice none 0 0) (.slice none 0 0) (.slice none 0 0))), (b2, row 63 (drV p1 (Sl va2 us.length vc2) (ownV q i) (.slice none 0 0)))]) rfl hq (fun hfp => ?_)
      have hf65 : ∀ k, (factC 65 (ownV q i) i (hs.map hdV).flatten).fp k → w.heap.size ≤ k := fun k hk => fresh_of (hfp k hk)
      subst hal
      have hE1 : lsF hdF (l2, d2) = (hs, (l', false)) := by first | exact (lsF_e hr3).trans (loop_stop hR) | exact (lsF_e hr3).trans (loop_fin (by omega) hR)
      refine J_region ?_
      refine L_v rfl rfl rfl (V_move rfl rfl) ?_
      obtain ⟨p5, l5, d5, hr5⟩ : ∃ p l'' d, manyF (l', false) = (p, (l'', d)) := ⟨_, _, _, rfl⟩
      refine L_inT 0 (r := (p5, (l5, d5))) rfl rfl rfl rfl rfl rfl tx88tu rfl (fun w1 hw => hr5 ▸ tmany_w rb u0 l0 w1 _ _ _ _ _ (hw.at (i := 0) rfl) (fxT (i := 0) hw rfl) hD' hby' hc' hl') (fun v5 fs5 a5 n5 c5 hV5 hc5 hD5 hnw5 => ?_)
      obtain ⟨rfl, rfl⟩ := hV5
      have hby5 : Byt l5 := by have h9 := agM.byt (s := (l', false)) hby'; rw [hr5] at h9; exact h9
      have hl5 : l5.length ≤ 1099511627776 := by have h9 := agM.short (s := (l', false)) (B := 1099511627776) hl'; rw [hr5] at h9; exact h9
      have hp5 : p5 ≤ 4096 := by have h9 := many_le (l', false); rw [hr5] at h9; exact h9
      refine L_v rfl rfl rfl (V_assign rfl rfl) ?_
      refine L_nil ?_
      change J _ _ _ _
      refine J_seq ?_
      refine J_seq ?_
      refine J_region ?_
      refine L_v rfl rfl rfl (V_assign rfl rfl) ?_
      refine L_nil ?_
      change J _ _ _ _
      refine J_block ?_
      refine J_loop (X := Nat × OwnR × List Se × (Option Addr × Nat × Nat) × List Int × Bool) (fun x => { env := [(0, .pointer (some ⟨rb, 0, none⟩)), (2, .pointer (some ⟨b1, 0, none⟩)), (3, .pointer (some ⟨b2, 0, none⟩)), (4, vi p5), (7, vi (x.1 : Int))], mem := [(rb, row 76 [.slice x.2.2.2.1.1 x.2.2.2.1.2.1 x.2.2.2.1.2.2, .bool x.2.2.2.2.2]), (b1, row 63 (drV 0 (.slice none 0 0) (.slice none 0 0) (.slice none 0 0))), (b2, row 63 (drV p1 (Sl va2 us.length vc2) (ownV q hs.length) (ownV x.2.1 x.1)))] ++ ownM 106 x.2.1 (x.2.2.1.map seV).flatten, facts := ([factB u0 l0] ++ (factC 2 (Sl va2 us.length vc2) us.length (us.map usW).flatten :: us.map usF)) ++ [factC 65 (ownV q hs.length) hs.length (hs.map hdV).flatten] }) (fun x => x.1 ≤ p5.toNat ∧ x.2.2.1.length = x.1 ∧ OwnC 4 x.2.1 x.1 (x.2.2.1.map seV).flatten ∧ (∀ W, SlB W u0 l0 → SlB W (.slice x.2.2.2.1.1 x.2.2.2.1.2.1 x.2.2.2.1.2.2) x.2.2.2.2.1) ∧ Byt x.2.2.2.2.1 ∧ x.2.2.2.1.2.1 ≤ x.2.2.2.1.2.2 ∧ x.2.2.2.2.1.length ≤ 1099511627776 ∧ loopF seF (p5.toNat - x.1) (x.2.2.2.2.1, x.2.2.2.2.2) x.2.2.1 = loopF seF p5.toNat (l5, d5) []) (fun x => p5.toNat - x.1) (0, none, [], (a5, n5, c5), l5, d5) ⟨Nat.zero_le _, rfl, ⟨rfl, rfl⟩, hD5, hby5, hc5, hl5, rfl⟩ ⟨⟨rfl, rfl, rfl, rfl, rfl, trivial⟩, List.Sublist.refl _, (fun f hf => List.mem_append_left _ hf), rfl⟩ ?_
      rintro ⟨j, q5, ss, ⟨a7, n7, c7⟩, l7, d7⟩ ⟨hj, hsl, hq5, hD7, hby7, hc7, hl7, hR2⟩
      simp only at hj hsl hq5 hD7 hby7 hc7 hl7 hR2 ⊢
      rcases d7 with _ | _
      ·
        refine J_seq ?_
        refine J_seq ?_
        refine J_region ?_
        refine L_v rfl rfl rfl (V_move rfl rfl) ?_
        refine L_v rfl rfl rfl (V_move rfl rfl) ?_
        refine L_v rfl rfl rfl (V_lss rfl rfl rfl (by first | exact decide_eq_true (by omega) | exact decide_eq_false (by omega) | rfl)) ?_
        refine L_v rfl rfl rfl (V_move rfl rfl) ?_
        refine L_split 44 rfl (fun h2 => ?_) (fun h2 => ?_)
        ·
          first | (have h2 := of_decide_eq_true h2) | (have h2 := of_decide_eq_false h2) | skip
          refine L_wv rfl rfl rfl rfl rfl rfl (V_move rfl rfl) ?_
          refine L_wv rfl rfl rfl rfl rfl rfl (V_nilCheck rfl rfl) ?_
          refine L_wv rfl rfl rfl rfl rfl rfl (V_fieldAddr rfl rfl Tryz.underlying76 rfl sz4tu rfl) ?_
          refine L_wv rfl rfl rfl rfl rfl rfl (V_load1 0 rfl rfl rfl Tryz.underlying4 rfl (by first | rfl | exact dg_get (by omega) (by omega))) ?_
          refine L_wv rfl rfl rfl rfl rfl rfl (V_not rfl rfl rfl) ?_
          first | refine L_v rfl rfl rfl (V_pickT rfl rfl rfl) ?_ | refine L_v rfl rfl rfl (V_pickF rfl rfl rfl) ?_
          refine L_nil ?_
          change J _ _ _ _
          refine J_true rfl ?_
          refine J_skip ?_
          change J _ _ _ _
          refine J_seq ?_
          refine J_block ?_
          refine J_seq ?_
          refine J_region ?_
          refine L_v rfl rfl rfl (V_build (vs := []) rfl rfl bzS) ?_
          refine L_alloc rfl rfl rfl rfl z106tu (fun b11 => ?_)
          refine L_pk ((rb, row 76 [.slice a7 n7 c7, .bool false]) :: (b1, row 63 (drV 0 (.slice none 0 0) (.slice none 0 0) (.slice none 0 0))) :: (b2, row 63 (drV p1 (Sl va2 us.length vc2) (ownV q hs.length) (ownV q5 j))) :: (b11, row 106 (seV (0, 0, 0, 0))) :: ownM 106 q5 (ss.map seV).flatten) (Pk.of_perm pk4 (List.Sublist.refl _)) ?_
          refine L_storeW 3 rfl rfl rfl rfl rfl rfl (szd sz106tu (by kernel_rfl)) (all_one (by kernel_rfl)) (by kernel_rfl) ?_
          refine L_nil ?_
          change J _ _ _ _
          refine J_seq ?_
          refine J_region ?_
          refine L_v rfl rfl rfl (V_move rfl rfl) ?_
          obtain ⟨p10, l10, d10, hr10⟩ : ∃ p l'' d, cF (l7, false) = (p, (l'', d)) := ⟨_, _, _, rfl⟩
          refine L_inT 0 (r := (p10, (l10, d10))) rfl rfl rfl rfl rfl rfl tx64tu rfl (fun w1 hw => hr10 ▸ tn_w rb u0 l0 w1 _ _ _ _ _ (hw.at (i := 0) rfl) (fxT (i := 0) hw rfl) hD7 hby7 hc7 hl7) (fun v10 fs10 a10 n10 c10 hV10 hc10 hD10 hnw10 => ?_)
          obtain ⟨rfl, rfl⟩ := hV10
          have hby10 : Byt l10 := by have h9 := agC.byt (s := (l7, false)) hby7; rw [hr10] at h9; exact h9
          have hl10 : l10.length ≤ 1099511627776 := by have h9 := agC.short (s := (l7, false)) (B := 1099511627776) hl7; rw [hr10] at h9; exact h9
          refine L_v rfl rfl rfl (V_fieldAddr rfl rfl Tryz.underlying106 rfl sz3tu rfl) ?_
          refine L_store1 3 (l' := seV (p10, 0, 0, 0)) rfl rfl rfl rfl rfl rfl rfl sz3tu (Nat.le_of_ble_eq_true (by kernel_rfl)) (by kernel_rfl) ?_
          refine L_nil ?_
          change J _ _ _ _
          refine J_seq ?_
          refine J_region ?_
          refine L_v rfl rfl rfl (V_move rfl rfl) ?_
          obtain ⟨p11, l11, d11, hr11⟩ : ∃ p l' d, cF (l10, d10) = (p, (l', d)) := ⟨_, _, _, rfl⟩
          refine L_inT 0 (r := (p11, (l11, d11))) rfl rfl rfl rfl rfl rfl tx64tu rfl (fun w1 hw => hr11 ▸ tn_w rb u0 l0 w1 _ _ _ _ _ (hw.at (i := 0) rfl) (fxT (i := 0) hw rfl) hD10 hby10 hc10 hl10) (fun v11 fs11 a11 n11 c11 hV11 hc11 hD11 hnw11 => ?_)
          obtain ⟨rfl, rfl⟩ := hV11
          have hby11 : Byt l11 := by have h9 := agC.byt (s := (l10, d10)) hby10; rw [hr11] at h9; exact h9
          have hl11 : l11.length ≤ 1099511627776 := by have h9 := agC.short (s := (l10, d10)) (B := 1099511627776) hl10; rw [hr11] at h9; exact h9
          refine L_v rfl rfl rfl (V_fieldAddr rfl rfl Tryz.underlying106 rfl sz3tu rfl) ?_
          refine L_store1 3 (l' := seV (p10, p11, 0, 0)) rfl rfl rfl rfl rfl rfl rfl sz3tu (Nat.le_of_ble_eq_true (by kernel_rfl)) (by kernel_rfl) ?_
          refine L_nil ?_
          change J _ _ _ _
          refine J_seq ?_
          refine J_region ?_
          refine L_v rfl rfl rfl (V_move rfl rfl) ?_
          obtain ⟨p12, l12, d12, hr12⟩ : ∃ p l' d, cF (l11, d11) = (p, (l', d)) := ⟨_, _, _, rfl⟩
          refine L_inT 0 (r := (p12, (l12, d12))) rfl rfl rfl rfl rfl rfl tx64tu rfl (fun w1 hw => hr12 ▸ tn_w rb u0 l0 w1 _ _ _ _ _ (hw.at (i := 0) rfl) (fxT (i := 0) hw rfl) hD11 hby11 hc11 hl11) (fun v12 fs12 a12 n12 c12 hV12 hc12 hD12 hnw12 => ?_)
          obtain ⟨rfl, rfl⟩ := hV12
          have hby12 : Byt l12 := by have h9 := agC.byt (s := (l11, d11)) hby11; rw [hr12] at h9; exact h9
          have hl12 : l12.length ≤ 1099511627776 := by have h9 := agC.short (s := (l11, d11)) (B := 1099511627776) hl11; rw [hr12] at h9; exact h9
          refine L_v rfl rfl rfl (V_assign rfl rfl) ?_
          refine L_nil ?_
          change J _ _ _ _
          refine J_seq ?_
          refine J_region ?_
          refine L_v rfl rfl rfl (V_move rfl rfl) ?_
          refine L_v rfl rfl rfl (V_fieldAddr rfl rfl Tryz.underlying106 rfl sz28tu rfl) ?_
          refine L_store1 3 (l' := seV (p10, p11, p12, 0)) rfl rfl rfl rfl rfl rfl rfl sz28tu (Nat.le_of_ble_eq_true (by kernel_rfl)) (by kernel_rfl) ?_
          refine L_nil ?_
          change J _ _ _ _
          refine J_seq ?_
          refine J_region ?_
          refine L_v rfl rfl rfl (V_move rfl rfl) ?_
          obtain ⟨p13, l13, d13, hr13⟩ : ∃ p l' d, cF (l12, d12) = (p, (l', d)) := ⟨_, _, _, rfl⟩
          refine L_inT 0 (r := (p13, (l13, d13))) rfl rfl rfl rfl rfl rfl tx64tu rfl (fun w1 hw => hr13 ▸ tn_w rb u0 l0 w1 _ _ _ _ _ (hw.at (i := 0) rfl) (fxT (i := 0) hw rfl) hD12 hby12 hc12 hl12) (fun v13 fs13 a13 n13 c13 hV13 hc13 hD13 hnw13 => ?_)
          obtain ⟨rfl, rfl⟩ := hV13
          have hby13 : Byt l13 := by have h9 := agC.byt (s := (l12, d12)) hby12; rw [hr13] at h9; exact h9
          have hl13 : l13.length ≤ 1099511627776 := by have h9 := agC.short (s := (l12, d12)) (B := 1099511627776) hl12; rw [hr13] at h9; exact h9
          refine L_v rfl rfl rfl (V_fieldAddr rfl rfl Tryz.underlying106 rfl sz3tu rfl) ?_
          refine L_store1 3 (l' := seV (p10, p11, p12, p13)) rfl rfl rfl rfl rfl rfl rfl sz3tu (Nat.le_of_ble_eq_true (by kernel_rfl)) (by kernel_rfl) ?_
          refine L_nil ?_
          change J _ _ _ _
          refine J_region ?_
          refine L_v rfl rfl rfl (V_fieldAddr rfl rfl Tryz.underlying63 rfl sz61tu rfl) ?_
          refine L_v rfl rfl rfl (V_load1 2 rfl rfl rfl Tryz.underlying61 rfl (by first | rfl | exact dg_get (by omega) (by omega))) ?_
          refine L_v rfl rfl rfl (V_loadW 3 rfl rfl rfl Tryz.underlying106 rfl (szd sz106tu (by kernel_rfl))) ?_
          refine L_buildSlice (vs := [(0, .agg (seV (p10, p11, p12, p13)).toArray)]) (l := seV (p10, p11, p12, p13)) rfl rfl rfl rfl rfl (bsS _) (fun b10 => ?_)
          refine L_appN [(rb, row 76 [.slice a13 n13 c13, .bool d13]), (b1, row 63 (drV 0 (.slice none 0 0) (.slice none 0 0) (.slice none 0 0))), (b2, row 63 (drV p1 (Sl va2 us.length vc2) (ownV q hs.length) (ownV q5 j))), (b11, row 106 (seV (p10, p11, p12, p13)))] [(b10, row 106 (seV (p10, p11, p12, p13)))] q5 (ss.map seV).flatten (m := 1) (news := seV (p10, p11, p12, p13)) (n' := j + 1) (ks' := ((ss ++ [(p10, p11, p12, p13)]).map seV).flatten) rfl rfl rfl rfl rfl Tryz.underlying61 elS rfl hq5 (fun w1 hw => src_C Tryz.underlying61 (SlC.in hw (ks := seV (p10, p11, p12, p13)) (r := []) (fz := (0, 0)) (List.mem_append_right _ (by rw [List.append_nil]; exact List.mem_singleton.2 rfl)) rfl 1) (all_one (by kernel_rfl))) rfl (mapf_app seV ss (p10, p11, p12, p13)) (by omega) (by omega) (fun q6 hq6 => ?_)
          refine L_v rfl rfl rfl (V_fieldAddr rfl rfl Tryz.underlying63 rfl sz61tu rfl) ?_
          refine L_store1 2 (l' := drV p1 (Sl va2 us.length vc2) (ownV q hs.length) (ownV q6 (j + 1))) rfl rfl rfl rfl rfl rfl rfl sz61tu (Nat.le_of_ble_eq_true (by kernel_rfl)) (by kernel_rfl) ?_
          refine L_nil ?_
          change J _ _ _ _
          refine J_region ?_
          refine L_v rfl rfl rfl (V_move rfl rfl) ?_
          refine L_v rfl rfl rfl (V_add rfl rfl rfl (by first | exact Go.IntWalk.i64_in _ (by omega) | rfl)) ?_
          refine L_v rfl rfl rfl (V_assign rfl rfl) ?_
          refine L_nil ?_
          exact ⟨(j + 1, q6, ss ++ [(p10, p11, p12, p13)], (a13, n13, c13), l13, d13), ⟨by show j + 1 ≤ p5.toNat; omega, by show (ss ++ [(p10, p11, p12, p13)]).length = j + 1; simp [hsl], hq6, hD13, hby13, hc13, hl13, loop_go (by omega) hR2 (prF_e hr10 (prF_e hr11 (prF_e hr12 hr13)))⟩, by show p5.toNat - (j + 1) < p5.toNat - j; omega, ⟨rfl, rfl, rfl, rfl, rfl, trivial⟩, List.Sublist.cons_cons _ (List.Sublist.cons_cons _ (List.Sublist.cons_cons _ (List.Sublist.cons _ (List.sublist_append_left _ _)))), (fun f hf => List.mem_append_left _ (List.mem_append_left _ (List.mem_append_left _ (List.mem_append_left _ hf)))), rfl⟩
        ·
          first | (have h2 := of_decide_eq_true h2) | (have h2 := of_decide_eq_false h2) | skip
          refine L_skip rfl rfl rfl rfl rfl rfl rfl ?_
          refine L_skip rfl rfl rfl rfl rfl rfl rfl ?_
          refine L_skip rfl rfl rfl rfl rfl rfl rfl ?_
          refine L_skip rfl rfl rfl rfl rfl rfl rfl ?_
          refine L_skip rfl rfl rfl rfl rfl rfl rfl ?_
          first | refine L_v rfl rfl rfl (V_pickT rfl rfl rfl) ?_ | refine L_v rfl rfl rfl (V_pickF rfl rfl rfl) ?_
          refine L_nil ?_
          change J _ _ _ _
          refine J_false rfl ?_
          refine J_exit ?_
          change J _ _ _ _
          refine J_seq ?_
          refine J_toFactD ([(rb, row 76 [.slice a7 n7 c7, .bool false]), (b1, row 63 (drV 0 (.slice none 0 0) (.slice none 0 0) (.slice none 0 0))), (b2, row 63 (drV p1 (Sl va2 us.length vc2) (ownV q hs.length) (ownV q5 j)))]) rfl hq5 (fun hfp => ?_)
          have hf4 : ∀ k, (factC 4 (ownV q5 j) j (ss.map seV).flatten).fp k → w.heap.size ≤ k := fun k hk => fresh_of (hfp k hk)
          subst hsl
          have hE2 : lsF seF (l', false) = (ss, (l7, false)) := by first | exact (lsF_e hr5).trans (loop_stop hR2) | exact (lsF_e hr5).trans (loop_fin (by omega) hR2)
          refine J_region ?_
          refine L_v rfl rfl rfl (V_loadW 2 rfl rfl rfl Tryz.underlying63 rfl (szd sz63tu (by kernel_rfl))) ?_
          refine L_storeW 1 rfl rfl rfl rfl rfl rfl (szd sz63tu (by kernel_rfl)) (all_one (by kernel_rfl)) (by kernel_rfl) ?_
          refine L_nil ?_
          change J _ _ _ _
          refine J_ret ?_
          change Kret _ _ _ Exit.ret _
          refine ret1 rfl rfl (RV_c 1 rfl rfl Tryz.underlying63 rfl (szd sz63tu (by kernel_rfl))) ?_
          have e9 : drF (l, bd) = _ := prF_e hr1 (prF_e hr2 (prF_e hE1 hE2))
          exact fun w' h => by rw [e9]; exact InT.of h.fr ⟨us, va2, vc2, oA q, oC q, oA q5, oC q5, rfl, rfl, rfl⟩ (inFacts h (fun f hf => by rcases List.mem_append.1 hf with hf | hf; rcases List.mem_append.1 hf with hf | hf; exact List.mem_append_left _ (List.mem_append_left _ (List.mem_append_right _ hf)); exact List.mem_append_left _ (List.mem_append_right _ hf); exact List.mem_append_right _ hf) (by intro f hf; rcases List.mem_append.1 hf with hf | hf; rcases List.mem_append.1 hf with hf | hf; exact hnw2 f hf; obtain rfl := List.mem_singleton.1 hf; exact hf65; obtain rfl := List.mem_singleton.1 hf; exact hf4)) (h.at (i := 0) rfl) hc7 hD7 rfl
      ·
        refine J_seq ?_
        refine J_seq ?_
        refine J_region ?_
        refine L_v rfl rfl rfl (V_move rfl rfl) ?_
        refine L_v rfl rfl rfl (V_move rfl rfl) ?_
        refine L_v rfl rfl rfl (V_lss rfl rfl rfl (by first | exact decide_eq_true (by omega) | exact decide_eq_false (by omega) | rfl)) ?_
        refine L_v rfl rfl rfl (V_move rfl rfl) ?_
        refine L_split 44 rfl (fun h2 => ?_) (fun h2 => ?_)
        ·
          first | (have h2 := of_decide_eq_true h2) | (have h2 := of_decide_eq_false h2) | skip
          refine L_wv rfl rfl rfl rfl rfl rfl (V_move rfl rfl) ?_
          refine L_wv rfl rfl rfl rfl rfl rfl (V_nilCheck rfl rfl) ?_
          refine L_wv rfl rfl rfl rfl rfl rfl (V_fieldAddr rfl rfl Tryz.underlying76 rfl sz4tu rfl) ?_
          refine L_wv rfl rfl rfl rfl rfl rfl (V_load1 0 rfl rfl rfl Tryz.underlying4 rfl (by first | rfl | exact dg_get (by omega) (by omega))) ?_
          refine L_wv rfl rfl rfl rfl rfl rfl (V_not rfl rfl rfl) ?_
          first | refine L_v rfl rfl rfl (V_pickT rfl rfl rfl) ?_ | refine L_v rfl rfl rfl (V_pickF rfl rfl rfl) ?_
          refine L_nil ?_
          change J _ _ _ _
          refine J_false rfl ?_
          refine J_exit ?_
          change J _ _ _ _
          refine J_seq ?_
          refine J_toFactD ([(rb, row 76 [.slice a7 n7 c7, .bool true]), (b1, row 63 (drV 0 (.slice none 0 0) (.slice none 0 0) (.slice none 0 0))), (b2, row 63 (drV p1 (Sl va2 us.length vc2) (ownV q hs.length) (ownV q5 j)))]) rfl hq5 (fun hfp => ?_)
          have hf4 : ∀ k, (factC 4 (ownV q5 j) j (ss.map seV).flatten).fp k → w.heap.size ≤ k := fun k hk => fresh_of (hfp k hk)
          subst hsl
          have hE2 : lsF seF (l', false) = (ss, (l7, true)) := by first | exact (lsF_e hr5).trans (loop_stop hR2) | exact (lsF_e hr5).trans (loop_fin (by omega) hR2)
          refine J_region ?_
          refine L_v rfl rfl rfl (V_loadW 2 rfl rfl rfl Tryz.underlying63 rfl (szd sz63tu (by kernel_rfl))) ?_
          refine L_storeW 1 rfl rfl rfl rfl rfl rfl (szd sz63tu (by kernel_rfl)) (all_one (by kernel_rfl)) (by kernel_rfl) ?_
          refine L_nil ?_
          change J _ _ _ _
          refine J_ret ?_
          change Kret _ _ _ Exit.ret _
          refine ret1 rfl rfl (RV_c 1 rfl rfl Tryz.underlying63 rfl (szd sz63tu (by kernel_rfl))) ?_
          have e9 : drF (l, bd) = _ := prF_e hr1 (prF_e hr2 (prF_e hE1 hE2))
          exact fun w' h => by rw [e9]; exact InT.of h.fr ⟨us, va2, vc2, oA q, oC q, oA q5, oC q5, rfl, rfl, rfl⟩ (inFacts h (fun f hf => by rcases List.mem_append.1 hf with hf | hf; rcases List.mem_append.1 hf with hf | hf; exact List.mem_append_left _ (List.mem_append_left _ (List.mem_append_right _ hf)); exact List.mem_append_left _ (List.mem_append_right _ hf); exact List.mem_append_right _ hf) (by intro f hf; rcases List.mem_append.1 hf with hf | hf; rcases List.mem_append.1 hf with hf | hf; exact hnw2 f hf; obtain rfl := List.mem_singleton.1 hf; exact hf65; obtain rfl := List.mem_singleton.1 hf; exact hf4)) (h.at (i := 0) rfl) hc7 hD7 rfl
        ·
          first | (have h2 := of_decide_eq_true h2) | (have h2 := of_decide_eq_false h2) | skip
          refine L_skip rfl rfl rfl rfl rfl rfl rfl ?_
          refine L_skip rfl rfl rfl rfl rfl rfl rfl ?_
          refine L_skip rfl rfl rfl rfl rfl rfl rfl ?_
          refine L_skip rfl rfl rfl rfl rfl rfl rfl ?_
          refine L_skip rfl rfl rfl rfl rfl rfl rfl ?_
          first | refine L_v rfl rfl rfl (V_pickT rfl rfl rfl) ?_ | refine L_v rfl rfl rfl (V_pickF rfl rfl rfl) ?_
          refine L_nil ?_
          change J _ _ _ _
          refine J_false rfl ?_
          refine J_exit ?_
          change J _ _ _ _
          refine J_seq ?_
          refine J_toFactD ([(rb, row 76 [.slice a7 n7 c7, .bool true]), (b1, row 63 (drV 0 (.slice none 0 0) (.slice none 0 0) (.slice none 0 0))), (b2, row 63 (drV p1 (Sl va2 us.length vc2) (ownV q hs.length) (ownV q5 j)))]) rfl hq5 (fun hfp => ?_)
          have hf4 : ∀ k, (factC 4 (ownV q5 j) j (ss.map seV).flatten).fp k → w.heap.size ≤ k := fun k hk => fresh_of (hfp k hk)
          subst hsl
          have hE2 : lsF seF (l', false) = (ss, (l7, true)) := by first | exact (lsF_e hr5).trans (loop_stop hR2) | exact (lsF_e hr5).trans (loop_fin (by omega) hR2)
          refine J_region ?_
          refine L_v rfl rfl rfl (V_loadW 2 rfl rfl rfl Tryz.underlying63 rfl (szd sz63tu (by kernel_rfl))) ?_
          refine L_storeW 1 rfl rfl rfl rfl rfl rfl (szd sz63tu (by kernel_rfl)) (all_one (by kernel_rfl)) (by kernel_rfl) ?_
          refine L_nil ?_
          change J _ _ _ _
          refine J_ret ?_
          change Kret _ _ _ Exit.ret _
          refine ret1 rfl rfl (RV_c 1 rfl rfl Tryz.underlying63 rfl (szd sz63tu (by kernel_rfl))) ?_
          have e9 : drF (l, bd) = _ := prF_e hr1 (prF_e hr2 (prF_e hE1 hE2))
          exact fun w' h => by rw [e9]; exact InT.of h.fr ⟨us, va2, vc2, oA q, oC q, oA q5, oC q5, rfl, rfl, rfl⟩ (inFacts h (fun f hf => by rcases List.mem_append.1 hf with hf | hf; rcases List.mem_append.1 hf with hf | hf; exact List.mem_append_left _ (List.mem_append_left _ (List.mem_append_right _ hf)); exact List.mem_append_left _ (List.mem_append_right _ hf); exact List.mem_append_right _ hf) (by intro f hf; rcases List.mem_append.1 hf with hf | hf; rcases List.mem_append.1 hf with hf | hf; exact hnw2 f hf; obtain rfl := List.mem_singleton.1 hf; exact hf65; obtain rfl := List.mem_singleton.1 hf; exact hf4)) (h.at (i := 0) rfl) hc7 hD7 rfl
  ·
    refine J_seq ?_
    refine J_seq ?_
    refine J_region ?_
    refine L_v rfl rfl rfl (V_move rfl rfl) ?_
    refine L_v rfl rfl rfl (V_move rfl rfl) ?_
    refine L_v rfl rfl rfl (V_lss rfl rfl rfl (by first | exact decide_eq_true (by omega) | exact decide_eq_false (by omega) | rfl)) ?_
    refine L_v rfl rfl rfl (V_move rfl rfl) ?_
    refine L_split 22 rfl (fun h1 => ?_) (fun h1 => ?_)
    ·
      first | (have h1 := of_decide_eq_true h1) | (have h1 := of_decide_eq_false h1) | skip
      refine L_wv rfl rfl rfl rfl rfl rfl (V_move rfl rfl) ?_
      refine L_wv rfl rfl rfl rfl rfl rfl (V_nilCheck rfl rfl) ?_
      refine L_wv rfl rfl rfl rfl rfl rfl (V_fieldAddr rfl rfl Tryz.underlying76 rfl sz4tu rfl) ?_
      refine L_wv rfl rfl rfl rfl rfl rfl (V_load1 0 rfl rfl rfl Tryz.underlying4 rfl (by first | rfl | exact dg_get (by omega) (by omega))) ?_
      refine L_wv rfl rfl rfl rfl rfl rfl (V_not rfl rfl rfl) ?_
      first | refine L_v rfl rfl rfl (V_pickT rfl rfl rfl) ?_ | refine L_v rfl rfl rfl (V_pickF rfl rfl rfl) ?_
      refine L_nil ?_
      change J _ _ _ _
      refine J_false rfl ?_
      refine J_exit ?_
      change J _ _ _ _
      refine J_seq ?_
      refine J_toFactD ([(rb, row 76 [.slice a' n' c', .bool true]), (b1, row 63 (drV 0 (.slice none 0 0) (.slice none 0 0) (.slice none 0 0))), (b2, row 63 (drV p1 (Sl va2 us.length vc2) (ownV q i) (.slice none 0 0)))]) rfl hq (fun hfp => ?_)
      have hf65 : ∀ k, (factC 65 (ownV q i) i (hs.map hdV).flatten).fp k → w.heap.size ≤ k := fun k hk => fresh_of (hfp k hk)
      subst hal
      have hE1 : lsF hdF (l2, d2) = (hs, (l', true)) := by first | exact (lsF_e hr3).trans (loop_stop hR) | exact (lsF_e hr3).trans (loop_fin (by omega) hR)
      refine J_region ?_
      refine L_v rfl rfl rfl (V_move rfl rfl) ?_
      obtain ⟨p5, l5, d5, hr5⟩ : ∃ p l'' d, manyF (l', true) = (p, (l'', d)) := ⟨_, _, _, rfl⟩
      refine L_inT 0 (r := (p5, (l5, d5))) rfl rfl rfl rfl rfl rfl tx88tu rfl (fun w1 hw => hr5 ▸ tmany_w rb u0 l0 w1 _ _ _ _ _ (hw.at (i := 0) rfl) (fxT (i := 0) hw rfl) hD' hby' hc' hl') (fun v5 fs5 a5 n5 c5 hV5 hc5 hD5 hnw5 => ?_)
      obtain ⟨rfl, rfl⟩ := hV5
      have hby5 : Byt l5 := by have h9 := agM.byt (s := (l', true)) hby'; rw [hr5] at h9; exact h9
      have hl5 : l5.length ≤ 1099511627776 := by have h9 := agM.short (s := (l', true)) (B := 1099511627776) hl'; rw [hr5] at h9; exact h9
      have hp5 : p5 ≤ 4096 := by have h9 := many_le (l', true); rw [hr5] at h9; exact h9
      refine L_v rfl rfl rfl (V_assign rfl rfl) ?_
      refine L_nil ?_
      change J _ _ _ _
      refine J_seq ?_
      refine J_seq ?_
      refine J_region ?_
      refine L_v rfl rfl rfl (V_assign rfl rfl) ?_
      refine L_nil ?_
      change J _ _ _ _
      refine J_block ?_
      refine J_loop (X := Nat × OwnR × List Se × (Option Addr × Nat × Nat) × List Int × Bool) (fun x => { env := [(0, .pointer (some ⟨rb, 0, none⟩)), (2, .pointer (some ⟨b1, 0, none⟩)), (3, .pointer (some ⟨b2, 0, none⟩)), (4, vi p5), (7, vi (x.1 : Int))], mem := [(rb, row 76 [.slice x.2.2.2.1.1 x.2.2.2.1.2.1 x.2.2.2.1.2.2, .bool x.2.2.2.2.2]), (b1, row 63 (drV 0 (.slice none 0 0) (.slice none 0 0) (.slice none 0 0))), (b2, row 63 (drV p1 (Sl va2 us.length vc2) (ownV q hs.length) (ownV x.2.1 x.1)))] ++ ownM 106 x.2.1 (x.2.2.1.map seV).flatten, facts := ([factB u0 l0] ++ (factC 2 (Sl va2 us.length vc2) us.length (us.map usW).flatten :: us.map usF)) ++ [factC 65 (ownV q hs.length) hs.length (hs.map hdV).flatten] }) (fun x => x.1 ≤ p5.toNat ∧ x.2.2.1.length = x.1 ∧ OwnC 4 x.2.1 x.1 (x.2.2.1.map seV).flatten ∧ (∀ W, SlB W u0 l0 → SlB W (.slice x.2.2.2.1.1 x.2.2.2.1.2.1 x.2.2.2.1.2.2) x.2.2.2.2.1) ∧ Byt x.2.2.2.2.1 ∧ x.2.2.2.1.2.1 ≤ x.2.2.2.1.2.2 ∧ x.2.2.2.2.1.length ≤ 1099511627776 ∧ loopF seF (p5.toNat - x.1) (x.2.2.2.2.1, x.2.2.2.2.2) x.2.2.1 = loopF seF p5.toNat (l5, d5) []) (fun x => p5.toNat - x.1) (0, none, [], (a5, n5, c5), l5, d5) ⟨Nat.zero_le _, rfl, ⟨rfl, rfl⟩, hD5, hby5, hc5, hl5, rfl⟩ ⟨⟨rfl, rfl, rfl, rfl, rfl, trivial⟩, List.Sublist.refl _, (fun f hf => List.mem_append_left _ hf), rfl⟩ ?_
      rintro ⟨j, q5, ss, ⟨a7, n7, c7⟩, l7, d7⟩ ⟨hj, hsl, hq5, hD7, hby7, hc7, hl7, hR2⟩
      simp only at hj hsl hq5 hD7 hby7 hc7 hl7 hR2 ⊢
      rcases d7 with _ | _
      ·
        refine J_seq ?_
        refine J_seq ?_
        refine J_region ?_
        refine L_v rfl rfl rfl (V_move rfl rfl) ?_
        refine L_v rfl rfl rfl (V_move rfl rfl) ?_
        refine L_v rfl rfl rfl (V_lss rfl rfl rfl (by first | exact decide_eq_true (by omega) | exact decide_eq_false (by omega) | rfl)) ?_
        refine L_v rfl rfl rfl (V_move rfl rfl) ?_
        refine L_split 44 rfl (fun h2 => ?_) (fun h2 => ?_)
        ·
          first | (have h2 := of_decide_eq_true h2) | (have h2 := of_decide_eq_false h2) | skip
          refine L_wv rfl rfl rfl rfl rfl rfl (V_move rfl rfl) ?_
          refine L_wv rfl rfl rfl rfl rfl rfl (V_nilCheck rfl rfl) ?_
          refine L_wv rfl rfl rfl rfl rfl rfl (V_fieldAddr rfl rfl Tryz.underlying76 rfl sz4tu rfl) ?_
          refine L_wv rfl rfl rfl rfl rfl rfl (V_load1 0 rfl rfl rfl Tryz.underlying4 rfl (by first | rfl | exact dg_get (by omega) (by omega))) ?_
          refine L_wv rfl rfl rfl rfl rfl rfl (V_not rfl rfl rfl) ?_
          first | refine L_v rfl rfl rfl (V_pickT rfl rfl rfl) ?_ | refine L_v rfl rfl rfl (V_pickF rfl rfl rfl) ?_
          refine L_nil ?_
          change J _ _ _ _
          refine J_true rfl ?_
          refine J_skip ?_
          change J _ _ _ _
          refine J_seq ?_
          refine J_block ?_
          refine J_seq ?_
          refine J_region ?_
          refine L_v rfl rfl rfl (V_build (vs := []) rfl rfl bzS) ?_
          refine L_alloc rfl rfl rfl rfl z106tu (fun b11 => ?_)
          refine L_pk ((rb, row 76 [.slice a7 n7 c7, .bool false]) :: (b1, row 63 (drV 0 (.slice none 0 0) (.slice none 0 0) (.slice none 0 0))) :: (b2, row 63 (drV p1 (Sl va2 us.length vc2) (ownV q hs.length) (ownV q5 j))) :: (b11, row 106 (seV (0, 0, 0, 0))) :: ownM 106 q5 (ss.map seV).flatten) (Pk.of_perm pk4 (List.Sublist.refl _)) ?_
          refine L_storeW 3 rfl rfl rfl rfl rfl rfl (szd sz106tu (by kernel_rfl)) (all_one (by kernel_rfl)) (by kernel_rfl) ?_
          refine L_nil ?_
          change J _ _ _ _
          refine J_seq ?_
          refine J_region ?_
          refine L_v rfl rfl rfl (V_move rfl rfl) ?_
          obtain ⟨p10, l10, d10, hr10⟩ : ∃ p l'' d, cF (l7, false) = (p, (l'', d)) := ⟨_, _, _, rfl⟩
          refine L_inT 0 (r := (p10, (l10, d10))) rfl rfl rfl rfl rfl rfl tx64tu rfl (fun w1 hw => hr10 ▸ tn_w rb u0 l0 w1 _ _ _ _ _ (hw.at (i := 0) rfl) (fxT (i := 0) hw rfl) hD7 hby7 hc7 hl7) (fun v10 fs10 a10 n10 c10 hV10 hc10 hD10 hnw10 => ?_)
          obtain ⟨rfl, rfl⟩ := hV10
          have hby10 : Byt l10 := by have h9 := agC.byt (s := (l7, false)) hby7; rw [hr10] at h9; exact h9
          have hl10 : l10.length ≤ 1099511627776 := by have h9 := agC.short (s := (l7, false)) (B := 1099511627776) hl7; rw [hr10] at h9; exact h9
          refine L_v rfl rfl rfl (V_fieldAddr rfl rfl Tryz.underlying106 rfl sz3tu rfl) ?_
          refine L_store1 3 (l' := seV (p10, 0, 0, 0)) rfl rfl rfl rfl rfl rfl rfl sz3tu (Nat.le_of_ble_eq_true (by kernel_rfl)) (by kernel_rfl) ?_
          refine L_nil ?_
          change J _ _ _ _
          refine J_seq ?_
          refine J_region ?_
          refine L_v rfl rfl rfl (V_move rfl rfl) ?_
          obtain ⟨p11, l11, d11, hr11⟩ : ∃ p l' d, cF (l10, d10) = (p, (l', d)) := ⟨_, _, _, rfl⟩
          refine L_inT 0 (r := (p11, (l11, d11))) rfl rfl rfl rfl rfl rfl tx64tu rfl (fun w1 hw => hr11 ▸ tn_w rb u0 l0 w1 _ _ _ _ _ (hw.at (i := 0) rfl) (fxT (i := 0) hw rfl) hD10 hby10 hc10 hl10) (fun v11 fs11 a11 n11 c11 hV11 hc11 hD11 hnw11 => ?_)
          obtain ⟨rfl, rfl⟩ := hV11
          have hby11 : Byt l11 := by have h9 := agC.byt (s := (l10, d10)) hby10; rw [hr11] at h9; exact h9
          have hl11 : l11.length ≤ 1099511627776 := by have h9 := agC.short (s := (l10, d10)) (B := 1099511627776) hl10; rw [hr11] at h9; exact h9
          refine L_v rfl rfl rfl (V_fieldAddr rfl rfl Tryz.underlying106 rfl sz3tu rfl) ?_
          refine L_store1 3 (l' := seV (p10, p11, 0, 0)) rfl rfl rfl rfl rfl rfl rfl sz3tu (Nat.le_of_ble_eq_true (by kernel_rfl)) (by kernel_rfl) ?_
          refine L_nil ?_
          change J _ _ _ _
          refine J_seq ?_
          refine J_region ?_
          refine L_v rfl rfl rfl (V_move rfl rfl) ?_
          obtain ⟨p12, l12, d12, hr12⟩ : ∃ p l' d, cF (l11, d11) = (p, (l', d)) := ⟨_, _, _, rfl⟩
          refine L_inT 0 (r := (p12, (l12, d12))) rfl rfl rfl rfl rfl rfl tx64tu rfl (fun w1 hw => hr12 ▸ tn_w rb u0 l0 w1 _ _ _ _ _ (hw.at (i := 0) rfl) (fxT (i := 0) hw rfl) hD11 hby11 hc11 hl11) (fun v12 fs12 a12 n12 c12 hV12 hc12 hD12 hnw12 => ?_)
          obtain ⟨rfl, rfl⟩ := hV12
          have hby12 : Byt l12 := by have h9 := agC.byt (s := (l11, d11)) hby11; rw [hr12] at h9; exact h9
          have hl12 : l12.length ≤ 1099511627776 := by have h9 := agC.short (s := (l11, d11)) (B := 1099511627776) hl11; rw [hr12] at h9; exact h9
          refine L_v rfl rfl rfl (V_assign rfl rfl) ?_
          refine L_nil ?_
          change J _ _ _ _
          refine J_seq ?_
          refine J_region ?_
          refine L_v rfl rfl rfl (V_move rfl rfl) ?_
          refine L_v rfl rfl rfl (V_fieldAddr rfl rfl Tryz.underlying106 rfl sz28tu rfl) ?_
          refine L_store1 3 (l' := seV (p10, p11, p12, 0)) rfl rfl rfl rfl rfl rfl rfl sz28tu (Nat.le_of_ble_eq_true (by kernel_rfl)) (by kernel_rfl) ?_
          refine L_nil ?_
          change J _ _ _ _
          refine J_seq ?_
          refine J_region ?_
          refine L_v rfl rfl rfl (V_move rfl rfl) ?_
          obtain ⟨p13, l13, d13, hr13⟩ : ∃ p l' d, cF (l12, d12) = (p, (l', d)) := ⟨_, _, _, rfl⟩
          refine L_inT 0 (r := (p13, (l13, d13))) rfl rfl rfl rfl rfl rfl tx64tu rfl (fun w1 hw => hr13 ▸ tn_w rb u0 l0 w1 _ _ _ _ _ (hw.at (i := 0) rfl) (fxT (i := 0) hw rfl) hD12 hby12 hc12 hl12) (fun v13 fs13 a13 n13 c13 hV13 hc13 hD13 hnw13 => ?_)
          obtain ⟨rfl, rfl⟩ := hV13
          have hby13 : Byt l13 := by have h9 := agC.byt (s := (l12, d12)) hby12; rw [hr13] at h9; exact h9
          have hl13 : l13.length ≤ 1099511627776 := by have h9 := agC.short (s := (l12, d12)) (B := 1099511627776) hl12; rw [hr13] at h9; exact h9
          refine L_v rfl rfl rfl (V_fieldAddr rfl rfl Tryz.underlying106 rfl sz3tu rfl) ?_
          refine L_store1 3 (l' := seV (p10, p11, p12, p13)) rfl rfl rfl rfl rfl rfl rfl sz3tu (Nat.le_of_ble_eq_true (by kernel_rfl)) (by kernel_rfl) ?_
          refine L_nil ?_
          change J _ _ _ _
          refine J_region ?_
          refine L_v rfl rfl rfl (V_fieldAddr rfl rfl Tryz.underlying63 rfl sz61tu rfl) ?_
          refine L_v rfl rfl rfl (V_load1 2 rfl rfl rfl Tryz.underlying61 rfl (by first | rfl | exact dg_get (by omega) (by omega))) ?_
          refine L_v rfl rfl rfl (V_loadW 3 rfl rfl rfl Tryz.underlying106 rfl (szd sz106tu (by kernel_rfl))) ?_
          refine L_buildSlice (vs := [(0, .agg (seV (p10, p11, p12, p13)).toArray)]) (l := seV (p10, p11, p12, p13)) rfl rfl rfl rfl rfl (bsS _) (fun b10 => ?_)
          refine L_appN [(rb, row 76 [.slice a13 n13 c13, .bool d13]), (b1, row 63 (drV 0 (.slice none 0 0) (.slice none 0 0) (.slice none 0 0))), (b2, row 63 (drV p1 (Sl va2 us.length vc2) (ownV q hs.length) (ownV q5 j))), (b11, row 106 (seV (p10, p11, p12, p13)))] [(b10, row 106 (seV (p10, p11, p12, p13)))] q5 (ss.map seV).flatten (m := 1) (news := seV (p10, p11, p12, p13)) (n' := j + 1) (ks' := ((ss ++ [(p10, p11, p12, p13)]).map seV).flatten) rfl rfl rfl rfl rfl Tryz.underlying61 elS rfl hq5 (fun w1 hw => src_C Tryz.underlying61 (SlC.in hw (ks := seV (p10, p11, p12, p13)) (r := []) (fz := (0, 0)) (List.mem_append_right _ (by rw [List.append_nil]; exact List.mem_singleton.2 rfl)) rfl 1) (all_one (by kernel_rfl))) rfl (mapf_app seV ss (p10, p11, p12, p13)) (by omega) (by omega) (fun q6 hq6 => ?_)
          refine L_v rfl rfl rfl (V_fieldAddr rfl rfl Tryz.underlying63 rfl sz61tu rfl) ?_
          refine L_store1 2 (l' := drV p1 (Sl va2 us.length vc2) (ownV q hs.length) (ownV q6 (j + 1))) rfl rfl rfl rfl rfl rfl rfl sz61tu (Nat.le_of_ble_eq_true (by kernel_rfl)) (by kernel_rfl) ?_
          refine L_nil ?_
          change J _ _ _ _
          refine J_region ?_
          refine L_v rfl rfl rfl (V_move rfl rfl) ?_
          refine L_v rfl rfl rfl (V_add rfl rfl rfl (by first | exact Go.IntWalk.i64_in _ (by omega) | rfl)) ?_
          refine L_v rfl rfl rfl (V_assign rfl rfl) ?_
          refine L_nil ?_
          exact ⟨(j + 1, q6, ss ++ [(p10, p11, p12, p13)], (a13, n13, c13), l13, d13), ⟨by show j + 1 ≤ p5.toNat; omega, by show (ss ++ [(p10, p11, p12, p13)]).length = j + 1; simp [hsl], hq6, hD13, hby13, hc13, hl13, loop_go (by omega) hR2 (prF_e hr10 (prF_e hr11 (prF_e hr12 hr13)))⟩, by show p5.toNat - (j + 1) < p5.toNat - j; omega, ⟨rfl, rfl, rfl, rfl, rfl, trivial⟩, List.Sublist.cons_cons _ (List.Sublist.cons_cons _ (List.Sublist.cons_cons _ (List.Sublist.cons _ (List.sublist_append_left _ _)))), (fun f hf => List.mem_append_left _ (List.mem_append_left _ (List.mem_append_left _ (List.mem_append_left _ hf)))), rfl⟩
        ·
          first | (have h2 := of_decide_eq_true h2) | (have h2 := of_decide_eq_false h2) | skip
          refine L_skip rfl rfl rfl rfl rfl rfl rfl ?_
          refine L_skip rfl rfl rfl rfl rfl rfl rfl ?_
          refine L_skip rfl rfl rfl rfl rfl rfl rfl ?_
          refine L_skip rfl rfl rfl rfl rfl rfl rfl ?_
          refine L_skip rfl rfl rfl rfl rfl rfl rfl ?_
          first | refine L_v rfl rfl rfl (V_pickT rfl rfl rfl) ?_ | refine L_v rfl rfl rfl (V_pickF rfl rfl rfl) ?_
          refine L_nil ?_
          change J _ _ _ _
          refine J_false rfl ?_
          refine J_exit ?_
          change J _ _ _ _
          refine J_seq ?_
          refine J_toFactD ([(rb, row 76 [.slice a7 n7 c7, .bool false]), (b1, row 63 (drV 0 (.slice none 0 0) (.slice none 0 0) (.slice none 0 0))), (b2, row 63 (drV p1 (Sl va2 us.length vc2) (ownV q hs.length) (ownV q5 j)))]) rfl hq5 (fun hfp => ?_)
          have hf4 : ∀ k, (factC 4 (ownV q5 j) j (ss.map seV).flatten).fp k → w.heap.size ≤ k := fun k hk => fresh_of (hfp k hk)
          subst hsl
          have hE2 : lsF seF (l', true) = (ss, (l7, false)) := by first | exact (lsF_e hr5).trans (loop_stop hR2) | exact (lsF_e hr5).trans (loop_fin (by omega) hR2)
          refine J_region ?_
          refine L_v rfl rfl rfl (V_loadW 2 rfl rfl rfl Tryz.underlying63 rfl (szd sz63tu (by kernel_rfl))) ?_
          refine L_storeW 1 rfl rfl rfl rfl rfl rfl (szd sz63tu (by kernel_rfl)) (all_one (by kernel_rfl)) (by kernel_rfl) ?_
          refine L_nil ?_
          change J _ _ _ _
          refine J_ret ?_
          change Kret _ _ _ Exit.ret _
          refine ret1 rfl rfl (RV_c 1 rfl rfl Tryz.underlying63 rfl (szd sz63tu (by kernel_rfl))) ?_
          have e9 : drF (l, bd) = _ := prF_e hr1 (prF_e hr2 (prF_e hE1 hE2))
          exact fun w' h => by rw [e9]; exact InT.of h.fr ⟨us, va2, vc2, oA q, oC q, oA q5, oC q5, rfl, rfl, rfl⟩ (inFacts h (fun f hf => by rcases List.mem_append.1 hf with hf | hf; rcases List.mem_append.1 hf with hf | hf; exact List.mem_append_left _ (List.mem_append_left _ (List.mem_append_right _ hf)); exact List.mem_append_left _ (List.mem_append_right _ hf); exact List.mem_append_right _ hf) (by intro f hf; rcases List.mem_append.1 hf with hf | hf; rcases List.mem_append.1 hf with hf | hf; exact hnw2 f hf; obtain rfl := List.mem_singleton.1 hf; exact hf65; obtain rfl := List.mem_singleton.1 hf; exact hf4)) (h.at (i := 0) rfl) hc7 hD7 rfl
      ·
        refine J_seq ?_
        refine J_seq ?_
        refine J_region ?_
        refine L_v rfl rfl rfl (V_move rfl rfl) ?_
        refine L_v rfl rfl rfl (V_move rfl rfl) ?_
        refine L_v rfl rfl rfl (V_lss rfl rfl rfl (by first | exact decide_eq_true (by omega) | exact decide_eq_false (by omega) | rfl)) ?_
        refine L_v rfl rfl rfl (V_move rfl rfl) ?_
        refine L_split 44 rfl (fun h2 => ?_) (fun h2 => ?_)
        ·
          first | (have h2 := of_decide_eq_true h2) | (have h2 := of_decide_eq_false h2) | skip
          refine L_wv rfl rfl rfl rfl rfl rfl (V_move rfl rfl) ?_
          refine L_wv rfl rfl rfl rfl rfl rfl (V_nilCheck rfl rfl) ?_
          refine L_wv rfl rfl rfl rfl rfl rfl (V_fieldAddr rfl rfl Tryz.underlying76 rfl sz4tu rfl) ?_
          refine L_wv rfl rfl rfl rfl rfl rfl (V_load1 0 rfl rfl rfl Tryz.underlying4 rfl (by first | rfl | exact dg_get (by omega) (by omega))) ?_
          refine L_wv rfl rfl rfl rfl rfl rfl (V_not rfl rfl rfl) ?_
          first | refine L_v rfl rfl rfl (V_pickT rfl rfl rfl) ?_ | refine L_v rfl rfl rfl (V_pickF rfl rfl rfl) ?_
          refine L_nil ?_
          change J _ _ _ _
          refine J_false rfl ?_
          refine J_exit ?_
          change J _ _ _ _
          refine J_seq ?_
          refine J_toFactD ([(rb, row 76 [.slice a7 n7 c7, .bool true]), (b1, row 63 (drV 0 (.slice none 0 0) (.slice none 0 0) (.slice none 0 0))), (b2, row 63 (drV p1 (Sl va2 us.length vc2) (ownV q hs.length) (ownV q5 j)))]) rfl hq5 (fun hfp => ?_)
          have hf4 : ∀ k, (factC 4 (ownV q5 j) j (ss.map seV).flatten).fp k → w.heap.size ≤ k := fun k hk => fresh_of (hfp k hk)
          subst hsl
          have hE2 : lsF seF (l', true) = (ss, (l7, true)) := by first | exact (lsF_e hr5).trans (loop_stop hR2) | exact (lsF_e hr5).trans (loop_fin (by omega) hR2)
          refine J_region ?_
          refine L_v rfl rfl rfl (V_loadW 2 rfl rfl rfl Tryz.underlying63 rfl (szd sz63tu (by kernel_rfl))) ?_
          refine L_storeW 1 rfl rfl rfl rfl rfl rfl (szd sz63tu (by kernel_rfl)) (all_one (by kernel_rfl)) (by kernel_rfl) ?_
          refine L_nil ?_
          change J _ _ _ _
          refine J_ret ?_
          change Kret _ _ _ Exit.ret _
          refine ret1 rfl rfl (RV_c 1 rfl rfl Tryz.underlying63 rfl (szd sz63tu (by kernel_rfl))) ?_
          have e9 : drF (l, bd) = _ := prF_e hr1 (prF_e hr2 (prF_e hE1 hE2))
          exact fun w' h => by rw [e9]; exact InT.of h.fr ⟨us, va2, vc2, oA q, oC q, oA q5, oC q5, rfl, rfl, rfl⟩ (inFacts h (fun f hf => by rcases List.mem_append.1 hf with hf | hf; rcases List.mem_append.1 hf with hf | hf; exact List.mem_append_left _ (List.mem_append_left _ (List.mem_append_right _ hf)); exact List.mem_append_left _ (List.mem_append_right _ hf); exact List.mem_append_right _ hf) (by intro f hf; rcases List.mem_append.1 hf with hf | hf; rcases List.mem_append.1 hf with hf | hf; exact hnw2 f hf; obtain rfl := List.mem_singleton.1 hf; exact hf65; obtain rfl := List.mem_singleton.1 hf; exact hf4)) (h.at (i := 0) rfl) hc7 hD7 rfl
        ·
          first | (have h2 := of_decide_eq_true h2) | (have h2 := of_decide_eq_false h2) | skip
          refine L_skip rfl rfl rfl rfl rfl rfl rfl ?_
          refine L_skip rfl rfl rfl rfl rfl rfl rfl ?_
          refine L_skip rfl rfl rfl rfl rfl rfl rfl ?_
          refine L_skip rfl rfl rfl rfl rfl rfl rfl ?_
          refine L_skip rfl rfl rfl rfl rfl rfl rfl ?_
          first | refine L_v rfl rfl rfl (V_pickT rfl rfl rfl) ?_ | refine L_v rfl rfl rfl (V_pickF rfl rfl rfl) ?_
          refine L_nil ?_
          change J _ _ _ _
          refine J_false rfl ?_
          refine J_exit ?_
          change J _ _ _ _
          refine J_seq ?_
          refine J_toFactD ([(rb, row 76 [.slice a7 n7 c7, .bool true]), (b1, row 63 (drV 0 (.slice none 0 0) (.slice none 0 0) (.slice none 0 0))), (b2, row 63 (drV p1 (Sl va2 us.length vc2) (ownV q hs.length) (ownV q5 j)))]) rfl hq5 (fun hfp => ?_)
          have hf4 : ∀ k, (factC 4 (ownV q5 j) j (ss.map seV).flatten).fp k → w.heap.size ≤ k := fun k hk => fresh_of (hfp k hk)
          subst hsl
          have hE2 : lsF seF (l', true) = (ss, (l7, true)) := by first | exact (lsF_e hr5).trans (loop_stop hR2) | exact (lsF_e hr5).trans (loop_fin (by omega) hR2)
          refine J_region ?_
          refine L_v rfl rfl rfl (V_loadW 2 rfl rfl rfl Tryz.underlying63 rfl (szd sz63tu (by kernel_rfl))) ?_
          refine L_storeW 1 rfl rfl rfl rfl rfl rfl (szd sz63tu (by kernel_rfl)) (all_one (by kernel_rfl)) (by kernel_rfl) ?_
          refine L_nil ?_
          change J _ _ _ _
          refine J_ret ?_
          change Kret _ _ _ Exit.ret _
          refine ret1 rfl rfl (RV_c 1 rfl rfl Tryz.underlying63 rfl (szd sz63tu (by kernel_rfl))) ?_
          have e9 : drF (l, bd) = _ := prF_e hr1 (prF_e hr2 (prF_e hE1 hE2))
          exact fun w' h => by rw [e9]; exact InT.of h.fr ⟨us, va2, vc2, oA q, oC q, oA q5, oC q5, rfl, rfl, rfl⟩ (inFacts h (fun f hf => by rcases List.mem_append.1 hf with hf | hf; rcases List.mem_append.1 hf with hf | hf; exact List.mem_append_left _ (List.mem_append_left _ (List.mem_append_right _ hf)); exact List.mem_append_left _ (List.mem_append_right _ hf); exact List.mem_append_right _ hf) (by intro f hf; rcases List.mem_append.1 hf with hf | hf; rcases List.mem_append.1 hf with hf | hf; exact hnw2 f hf; obtain rfl := List.mem_singleton.1 hf; exact hf65; obtain rfl := List.mem_singleton.1 hf; exact hf4)) (h.at (i := 0) rfl) hc7 hD7 rfl
    ·
      first | (have h1 := of_decide_eq_true h1) | (have h1 := of_decide_eq_false h1) | skip
      refine L_skip rfl rfl rfl rfl rfl rfl rfl ?_
      refine L_skip rfl rfl rfl rfl rfl rfl rfl ?_
      refine L_skip rfl rfl rfl rfl rfl rfl rfl ?_
      refine L_skip rfl rfl rfl rfl rfl rfl rfl ?_
      refine L_skip rfl rfl rfl rfl rfl rfl rfl ?_
      first | refine L_v rfl rfl rfl (V_pickT rfl rfl rfl) ?_ | refine L_v rfl rfl rfl (V_pickF rfl rfl rfl) ?_
      refine L_nil ?_
      change J _ _ _ _
      refine J_false rfl ?_
      refine J_exit ?_
      change J _ _ _ _
      refine J_seq ?_
      refine J_toFactD ([(rb, row 76 [.slice a' n' c', .bool true]), (b1, row 63 (drV 0 (.slice none 0 0) (.slice none 0 0) (.slice none 0 0))), (b2, row 63 (drV p1 (Sl va2 us.length vc2) (ownV q i) (.slice none 0 0)))]) rfl hq (fun hfp => ?_)
      have hf65 : ∀ k, (factC 65 (ownV q i) i (hs.map hdV).flatten).fp k → w.heap.size ≤ k := fun k hk => fresh_of (hfp k hk)
      subst hal
      have hE1 : lsF hdF (l2, d2) = (hs, (l', true)) := by first | exact (lsF_e hr3).trans (loop_stop hR) | exact (lsF_e hr3).trans (loop_fin (by omega) hR)
      refine J_region ?_
      refine L_v rfl rfl rfl (V_move rfl rfl) ?_
      obtain ⟨p5, l5, d5, hr5⟩ : ∃ p l'' d, manyF (l', true) = (p, (l'', d)) := ⟨_, _, _, rfl⟩
      refine L_inT 0 (r := (p5, (l5, d5))) rfl rfl rfl rfl rfl rfl tx88tu rfl (fun w1 hw => hr5 ▸ tmany_w rb u0 l0 w1 _ _ _ _ _ (hw.at (i := 0) rfl) (fxT (i := 0) hw rfl) hD' hby' hc' hl') (fun v5 fs5 a5 n5 c5 hV5 hc5 hD5 hnw5 => ?_)
      obtain ⟨rfl, rfl⟩ := hV5
      have hby5 : Byt l5 := by have h9 := agM.byt (s := (l', true)) hby'; rw [hr5] at h9; exact h9
      have hl5 : l5.length ≤ 1099511627776 := by have h9 := agM.short (s := (l', true)) (B := 1099511627776) hl'; rw [hr5] at h9; exact h9
      have hp5 : p5 ≤ 4096 := by have h9 := many_le (l', true); rw [hr5] at h9; exact h9
      refine L_v rfl rfl rfl (V_assign rfl rfl) ?_
      refine L_nil ?_
      change J _ _ _ _
      refine J_seq ?_
      refine J_seq ?_
      refine J_region ?_
      refine L_v rfl rfl rfl (V_assign rfl rfl) ?_
      refine L_nil ?_
      change J _ _ _ _
      refine J_block ?_
      refine J_loop (X := Nat × OwnR × List Se × (Option Addr × Nat × Nat) × List Int × Bool) (fun x => { env := [(0, .pointer (some ⟨rb, 0, none⟩)), (2, .pointer (some ⟨b1, 0, none⟩)), (3, .pointer (some ⟨b2, 0, none⟩)), (4, vi p5), (7, vi (x.1 : Int))], mem := [(rb, row 76 [.slice x.2.2.2.1.1 x.2.2.2.1.2.1 x.2.2.2.1.2.2, .bool x.2.2.2.2.2]), (b1, row 63 (drV 0 (.slice none 0 0) (.slice none 0 0) (.slice none 0 0))), (b2, row 63 (drV p1 (Sl va2 us.length vc2) (ownV q hs.length) (ownV x.2.1 x.1)))] ++ ownM 106 x.2.1 (x.2.2.1.map seV).flatten, facts := ([factB u0 l0] ++ (factC 2 (Sl va2 us.length vc2) us.length (us.map usW).flatten :: us.map usF)) ++ [factC 65 (ownV q hs.length) hs.length (hs.map hdV).flatten] }) (fun x => x.1 ≤ p5.toNat ∧ x.2.2.1.length = x.1 ∧ OwnC 4 x.2.1 x.1 (x.2.2.1.map seV).flatten ∧ (∀ W, SlB W u0 l0 → SlB W (.slice x.2.2.2.1.1 x.2.2.2.1.2.1 x.2.2.2.1.2.2) x.2.2.2.2.1) ∧ Byt x.2.2.2.2.1 ∧ x.2.2.2.1.2.1 ≤ x.2.2.2.1.2.2 ∧ x.2.2.2.2.1.length ≤ 1099511627776 ∧ loopF seF (p5.toNat - x.1) (x.2.2.2.2.1, x.2.2.2.2.2) x.2.2.1 = loopF seF p5.toNat (l5, d5) []) (fun x => p5.toNat - x.1) (0, none, [], (a5, n5, c5), l5, d5) ⟨Nat.zero_le _, rfl, ⟨rfl, rfl⟩, hD5, hby5, hc5, hl5, rfl⟩ ⟨⟨rfl, rfl, rfl, rfl, rfl, trivial⟩, List.Sublist.refl _, (fun f hf => List.mem_append_left _ hf), rfl⟩ ?_
      rintro ⟨j, q5, ss, ⟨a7, n7, c7⟩, l7, d7⟩ ⟨hj, hsl, hq5, hD7, hby7, hc7, hl7, hR2⟩
      simp only at hj hsl hq5 hD7 hby7 hc7 hl7 hR2 ⊢
      rcases d7 with _ | _
      ·
        refine J_seq ?_
        refine J_seq ?_
        refine J_region ?_
        refine L_v rfl rfl rfl (V_move rfl rfl) ?_
        refine L_v rfl rfl rfl (V_move rfl rfl) ?_
        refine L_v rfl rfl rfl (V_lss rfl rfl rfl (by first | exact decide_eq_true (by omega) | exact decide_eq_false (by omega) | rfl)) ?_
        refine L_v rfl rfl rfl (V_move rfl rfl) ?_
        refine L_split 44 rfl (fun h2 => ?_) (fun h2 => ?_)
        ·
          first | (have h2 := of_decide_eq_true h2) | (have h2 := of_decide_eq_false h2) | skip
          refine L_wv rfl rfl rfl rfl rfl rfl (V_move rfl rfl) ?_
          refine L_wv rfl rfl rfl rfl rfl rfl (V_nilCheck rfl rfl) ?_
          refine L_wv rfl rfl rfl rfl rfl rfl (V_fieldAddr rfl rfl Tryz.underlying76 rfl sz4tu rfl) ?_
          refine L_wv rfl rfl rfl rfl rfl rfl (V_load1 0 rfl rfl rfl Tryz.underlying4 rfl (by first | rfl | exact dg_get (by omega) (by omega))) ?_
          refine L_wv rfl rfl rfl rfl rfl rfl (V_not rfl rfl rfl) ?_
          first | refine L_v rfl rfl rfl (V_pickT rfl rfl rfl) ?_ | refine L_v rfl rfl rfl (V_pickF rfl rfl rfl) ?_
          refine L_nil ?_
          change J _ _ _ _
          refine J_true rfl ?_
          refine J_skip ?_
          change J _ _ _ _
          refine J_seq ?_
          refine J_block ?_
          refine J_seq ?_
          refine J_region ?_
          refine L_v rfl rfl rfl (V_build (vs := []) rfl rfl bzS) ?_
          refine L_alloc rfl rfl rfl rfl z106tu (fun b11 => ?_)
          refine L_pk ((rb, row 76 [.slice a7 n7 c7, .bool false]) :: (b1, row 63 (drV 0 (.slice none 0 0) (.slice none 0 0) (.slice none 0 0))) :: (b2, row 63 (drV p1 (Sl va2 us.length vc2) (ownV q hs.length) (ownV q5 j))) :: (b11, row 106 (seV (0, 0, 0, 0))) :: ownM 106 q5 (ss.map seV).flatten) (Pk.of_perm pk4 (List.Sublist.refl _)) ?_
          refine L_storeW 3 rfl rfl rfl rfl rfl rfl (szd sz106tu (by kernel_rfl)) (all_one (by kernel_rfl)) (by kernel_rfl) ?_
          refine L_nil ?_
          change J _ _ _ _
          refine J_seq ?_
          refine J_region ?_
          refine L_v rfl rfl rfl (V_move rfl rfl) ?_
          obtain ⟨p10, l10, d10, hr10⟩ : ∃ p l'' d, cF (l7, false) = (p, (l'', d)) := ⟨_, _, _, rfl⟩
          refine L_inT 0 (r := (p10, (l10, d10))) rfl rfl rfl rfl rfl rfl tx64tu rfl (fun w1 hw => hr10 ▸ tn_w rb u0 l0 w1 _ _ _ _ _ (hw.at (i := 0) rfl) (fxT (i := 0) hw rfl) hD7 hby7 hc7 hl7) (fun v10 fs10 a10 n10 c10 hV10 hc10 hD10 hnw10 => ?_)
          obtain ⟨rfl, rfl⟩ := hV10
          have hby10 : Byt l10 := by have h9 := agC.byt (s := (l7, false)) hby7; rw [hr10] at h9; exact h9
          have hl10 : l10.length ≤ 1099511627776 := by have h9 := agC.short (s := (l7, false)) (B := 1099511627776) hl7; rw [hr10] at h9; exact h9
          refine L_v rfl rfl rfl (V_fieldAddr rfl rfl Tryz.underlying106 rfl sz3tu rfl) ?_
          refine L_store1 3 (l' := seV (p10, 0, 0, 0)) rfl rfl rfl rfl rfl rfl rfl sz3tu (Nat.le_of_ble_eq_true (by kernel_rfl)) (by kernel_rfl) ?_
          refine L_nil ?_
          change J _ _ _ _
          refine J_seq ?_
          refine J_region ?_
          refine L_v rfl rfl rfl (V_move rfl rfl) ?_
          obtain ⟨p11, l11, d11, hr11⟩ : ∃ p l' d, cF (l10, d10) = (p, (l', d)) := ⟨_, _, _, rfl⟩
          refine L_inT 0 (r := (p11, (l11, d11))) rfl rfl rfl rfl rfl rfl tx64tu rfl (fun w1 hw => hr11 ▸ tn_w rb u0 l0 w1 _ _ _ _ _ (hw.at (i := 0) rfl) (fxT (i := 0) hw rfl) hD10 hby10 hc10 hl10) (fun v11 fs11 a11 n11 c11 hV11 hc11 hD11 hnw11 => ?_)
          obtain ⟨rfl, rfl⟩ := hV11
          have hby11 : Byt l11 := by have h9 := agC.byt (s := (l10, d10)) hby10; rw [hr11] at h9; exact h9
          have hl11 : l11.length ≤ 1099511627776 := by have h9 := agC.short (s := (l10, d10)) (B := 1099511627776) hl10; rw [hr11] at h9; exact h9
          refine L_v rfl rfl rfl (V_fieldAddr rfl rfl Tryz.underlying106 rfl sz3tu rfl) ?_
          refine L_store1 3 (l' := seV (p10, p11, 0, 0)) rfl rfl rfl rfl rfl rfl rfl sz3tu (Nat.le_of_ble_eq_true (by kernel_rfl)) (by kernel_rfl) ?_
          refine L_nil ?_
          change J _ _ _ _
          refine J_seq ?_
          refine J_region ?_
          refine L_v rfl rfl rfl (V_move rfl rfl) ?_
          obtain ⟨p12, l12, d12, hr12⟩ : ∃ p l' d, cF (l11, d11) = (p, (l', d)) := ⟨_, _, _, rfl⟩
          refine L_inT 0 (r := (p12, (l12, d12))) rfl rfl rfl rfl rfl rfl tx64tu rfl (fun w1 hw => hr12 ▸ tn_w rb u0 l0 w1 _ _ _ _ _ (hw.at (i := 0) rfl) (fxT (i := 0) hw rfl) hD11 hby11 hc11 hl11) (fun v12 fs12 a12 n12 c12 hV12 hc12 hD12 hnw12 => ?_)
          obtain ⟨rfl, rfl⟩ := hV12
          have hby12 : Byt l12 := by have h9 := agC.byt (s := (l11, d11)) hby11; rw [hr12] at h9; exact h9
          have hl12 : l12.length ≤ 1099511627776 := by have h9 := agC.short (s := (l11, d11)) (B := 1099511627776) hl11; rw [hr12] at h9; exact h9
          refine L_v rfl rfl rfl (V_assign rfl rfl) ?_
          refine L_nil ?_
          change J _ _ _ _
          refine J_seq ?_
          refine J_region ?_
          refine L_v rfl rfl rfl (V_move rfl rfl) ?_
          refine L_v rfl rfl rfl (V_fieldAddr rfl rfl Tryz.underlying106 rfl sz28tu rfl) ?_
          refine L_store1 3 (l' := seV (p10, p11, p12, 0)) rfl rfl rfl rfl rfl rfl rfl sz28tu (Nat.le_of_ble_eq_true (by kernel_rfl)) (by kernel_rfl) ?_
          refine L_nil ?_
          change J _ _ _ _
          refine J_seq ?_
          refine J_region ?_
          refine L_v rfl rfl rfl (V_move rfl rfl) ?_
          obtain ⟨p13, l13, d13, hr13⟩ : ∃ p l' d, cF (l12, d12) = (p, (l', d)) := ⟨_, _, _, rfl⟩
          refine L_inT 0 (r := (p13, (l13, d13))) rfl rfl rfl rfl rfl rfl tx64tu rfl (fun w1 hw => hr13 ▸ tn_w rb u0 l0 w1 _ _ _ _ _ (hw.at (i := 0) rfl) (fxT (i := 0) hw rfl) hD12 hby12 hc12 hl12) (fun v13 fs13 a13 n13 c13 hV13 hc13 hD13 hnw13 => ?_)
          obtain ⟨rfl, rfl⟩ := hV13
          have hby13 : Byt l13 := by have h9 := agC.byt (s := (l12, d12)) hby12; rw [hr13] at h9; exact h9
          have hl13 : l13.length ≤ 1099511627776 := by have h9 := agC.short (s := (l12, d12)) (B := 1099511627776) hl12; rw [hr13] at h9; exact h9
          refine L_v rfl rfl rfl (V_fieldAddr rfl rfl Tryz.underlying106 rfl sz3tu rfl) ?_
          refine L_store1 3 (l' := seV (p10, p11, p12, p13)) rfl rfl rfl rfl rfl rfl rfl sz3tu (Nat.le_of_ble_eq_true (by kernel_rfl)) (by kernel_rfl) ?_
          refine L_nil ?_
          change J _ _ _ _
          refine J_region ?_
          refine L_v rfl rfl rfl (V_fieldAddr rfl rfl Tryz.underlying63 rfl sz61tu rfl) ?_
          refine L_v rfl rfl rfl (V_load1 2 rfl rfl rfl Tryz.underlying61 rfl (by first | rfl | exact dg_get (by omega) (by omega))) ?_
          refine L_v rfl rfl rfl (V_loadW 3 rfl rfl rfl Tryz.underlying106 rfl (szd sz106tu (by kernel_rfl))) ?_
          refine L_buildSlice (vs := [(0, .agg (seV (p10, p11, p12, p13)).toArray)]) (l := seV (p10, p11, p12, p13)) rfl rfl rfl rfl rfl (bsS _) (fun b10 => ?_)
          refine L_appN [(rb, row 76 [.slice a13 n13 c13, .bool d13]), (b1, row 63 (drV 0 (.slice none 0 0) (.slice none 0 0) (.slice none 0 0))), (b2, row 63 (drV p1 (Sl va2 us.length vc2) (ownV q hs.length) (ownV q5 j))), (b11, row 106 (seV (p10, p11, p12, p13)))] [(b10, row 106 (seV (p10, p11, p12, p13)))] q5 (ss.map seV).flatten (m := 1) (news := seV (p10, p11, p12, p13)) (n' := j + 1) (ks' := ((ss ++ [(p10, p11, p12, p13)]).map seV).flatten) rfl rfl rfl rfl rfl Tryz.underlying61 elS rfl hq5 (fun w1 hw => src_C Tryz.underlying61 (SlC.in hw (ks := seV (p10, p11, p12, p13)) (r := []) (fz := (0, 0)) (List.mem_append_right _ (by rw [List.append_nil]; exact List.mem_singleton.2 rfl)) rfl 1) (all_one (by kernel_rfl))) rfl (mapf_app seV ss (p10, p11, p12, p13)) (by omega) (by omega) (fun q6 hq6 => ?_)
          refine L_v rfl rfl rfl (V_fieldAddr rfl rfl Tryz.underlying63 rfl sz61tu rfl) ?_
          refine L_store1 2 (l' := drV p1 (Sl va2 us.length vc2) (ownV q hs.length) (ownV q6 (j + 1))) rfl rfl rfl rfl rfl rfl rfl sz61tu (Nat.le_of_ble_eq_true (by kernel_rfl)) (by kernel_rfl) ?_
          refine L_nil ?_
          change J _ _ _ _
          refine J_region ?_
          refine L_v rfl rfl rfl (V_move rfl rfl) ?_
          refine L_v rfl rfl rfl (V_add rfl rfl rfl (by first | exact Go.IntWalk.i64_in _ (by omega) | rfl)) ?_
          refine L_v rfl rfl rfl (V_assign rfl rfl) ?_
          refine L_nil ?_
          exact ⟨(j + 1, q6, ss ++ [(p10, p11, p12, p13)], (a13, n13, c13), l13, d13), ⟨by show j + 1 ≤ p5.toNat; omega, by show (ss ++ [(p10, p11, p12, p13)]).length = j + 1; simp [hsl], hq6, hD13, hby13, hc13, hl13, loop_go (by omega) hR2 (prF_e hr10 (prF_e hr11 (prF_e hr12 hr13)))⟩, by show p5.toNat - (j + 1) < p5.toNat - j; omega, ⟨rfl, rfl, rfl, rfl, rfl, trivial⟩, List.Sublist.cons_cons _ (List.Sublist.cons_cons _ (List.Sublist.cons_cons _ (List.Sublist.cons _ (List.sublist_append_left _ _)))), (fun f hf => List.mem_append_left _ (List.mem_append_left _ (List.mem_append_left _ (List.mem_append_left _ hf)))), rfl⟩
        ·
          first | (have h2 := of_decide_eq_true h2) | (have h2 := of_decide_eq_false h2) | skip
          refine L_skip rfl rfl rfl rfl rfl rfl rfl ?_
          refine L_skip rfl rfl rfl rfl rfl rfl rfl ?_
          refine L_skip rfl rfl rfl rfl rfl rfl rfl ?_
          refine L_skip rfl rfl rfl rfl rfl rfl rfl ?_
          refine L_skip rfl rfl rfl rfl rfl rfl rfl ?_
          first | refine L_v rfl rfl rfl (V_pickT rfl rfl rfl) ?_ | refine L_v rfl rfl rfl (V_pickF rfl rfl rfl) ?_
          refine L_nil ?_
          change J _ _ _ _
          refine J_false rfl ?_
          refine J_exit ?_
          change J _ _ _ _
          refine J_seq ?_
          refine J_toFactD ([(rb, row 76 [.slice a7 n7 c7, .bool false]), (b1, row 63 (drV 0 (.slice none 0 0) (.slice none 0 0) (.slice none 0 0))), (b2, row 63 (drV p1 (Sl va2 us.length vc2) (ownV q hs.length) (ownV q5 j)))]) rfl hq5 (fun hfp => ?_)
          have hf4 : ∀ k, (factC 4 (ownV q5 j) j (ss.map seV).flatten).fp k → w.heap.size ≤ k := fun k hk => fresh_of (hfp k hk)
          subst hsl
          have hE2 : lsF seF (l', true) = (ss, (l7, false)) := by first | exact (lsF_e hr5).trans (loop_stop hR2) | exact (lsF_e hr5).trans (loop_fin (by omega) hR2)
          refine J_region ?_
          refine L_v rfl rfl rfl (V_loadW 2 rfl rfl rfl Tryz.underlying63 rfl (szd sz63tu (by kernel_rfl))) ?_
          refine L_storeW 1 rfl rfl rfl rfl rfl rfl (szd sz63tu (by kernel_rfl)) (all_one (by kernel_rfl)) (by kernel_rfl) ?_
          refine L_nil ?_
          change J _ _ _ _
          refine J_ret ?_
          change Kret _ _ _ Exit.ret _
          refine ret1 rfl rfl (RV_c 1 rfl rfl Tryz.underlying63 rfl (szd sz63tu (by kernel_rfl))) ?_
          have e9 : drF (l, bd) = _ := prF_e hr1 (prF_e hr2 (prF_e hE1 hE2))
          exact fun w' h => by rw [e9]; exact InT.of h.fr ⟨us, va2, vc2, oA q, oC q, oA q5, oC q5, rfl, rfl, rfl⟩ (inFacts h (fun f hf => by rcases List.mem_append.1 hf with hf | hf; rcases List.mem_append.1 hf with hf | hf; exact List.mem_append_left _ (List.mem_append_left _ (List.mem_append_right _ hf)); exact List.mem_append_left _ (List.mem_append_right _ hf); exact List.mem_append_right _ hf) (by intro f hf; rcases List.mem_append.1 hf with hf | hf; rcases List.mem_append.1 hf with hf | hf; exact hnw2 f hf; obtain rfl := List.mem_singleton.1 hf; exact hf65; obtain rfl := List.mem_singleton.1 hf; exact hf4)) (h.at (i := 0) rfl) hc7 hD7 rfl
      ·
        refine J_seq ?_
        refine J_seq ?_
        refine J_region ?_
        refine L_v rfl rfl rfl (V_move rfl rfl) ?_
        refine L_v rfl rfl rfl (V_move rfl rfl) ?_
        refine L_v rfl rfl rfl (V_lss rfl rfl rfl (by first | exact decide_eq_true (by omega) | exact decide_eq_false (by omega) | rfl)) ?_
        refine L_v rfl rfl rfl (V_move rfl rfl) ?_
        refine L_split 44 rfl (fun h2 => ?_) (fun h2 => ?_)
        ·
          first | (have h2 := of_decide_eq_true h2) | (have h2 := of_decide_eq_false h2) | skip
          refine L_wv rfl rfl rfl rfl rfl rfl (V_move rfl rfl) ?_
          refine L_wv rfl rfl rfl rfl rfl rfl (V_nilCheck rfl rfl) ?_
          refine L_wv rfl rfl rfl rfl rfl rfl (V_fieldAddr rfl rfl Tryz.underlying76 rfl sz4tu rfl) ?_
          refine L_wv rfl rfl rfl rfl rfl rfl (V_load1 0 rfl rfl rfl Tryz.underlying4 rfl (by first | rfl | exact dg_get (by omega) (by omega))) ?_
          refine L_wv rfl rfl rfl rfl rfl rfl (V_not rfl rfl rfl) ?_
          first | refine L_v rfl rfl rfl (V_pickT rfl rfl rfl) ?_ | refine L_v rfl rfl rfl (V_pickF rfl rfl rfl) ?_
          refine L_nil ?_
          change J _ _ _ _
          refine J_false rfl ?_
          refine J_exit ?_
          change J _ _ _ _
          refine J_seq ?_
          refine J_toFactD ([(rb, row 76 [.slice a7 n7 c7, .bool true]), (b1, row 63 (drV 0 (.slice none 0 0) (.slice none 0 0) (.slice none 0 0))), (b2, row 63 (drV p1 (Sl va2 us.length vc2) (ownV q hs.length) (ownV q5 j)))]) rfl hq5 (fun hfp => ?_)
          have hf4 : ∀ k, (factC 4 (ownV q5 j) j (ss.map seV).flatten).fp k → w.heap.size ≤ k := fun k hk => fresh_of (hfp k hk)
          subst hsl
          have hE2 : lsF seF (l', true) = (ss, (l7, true)) := by first | exact (lsF_e hr5).trans (loop_stop hR2) | exact (lsF_e hr5).trans (loop_fin (by omega) hR2)
          refine J_region ?_
          refine L_v rfl rfl rfl (V_loadW 2 rfl rfl rfl Tryz.underlying63 rfl (szd sz63tu (by kernel_rfl))) ?_
          refine L_storeW 1 rfl rfl rfl rfl rfl rfl (szd sz63tu (by kernel_rfl)) (all_one (by kernel_rfl)) (by kernel_rfl) ?_
          refine L_nil ?_
          change J _ _ _ _
          refine J_ret ?_
          change Kret _ _ _ Exit.ret _
          refine ret1 rfl rfl (RV_c 1 rfl rfl Tryz.underlying63 rfl (szd sz63tu (by kernel_rfl))) ?_
          have e9 : drF (l, bd) = _ := prF_e hr1 (prF_e hr2 (prF_e hE1 hE2))
          exact fun w' h => by rw [e9]; exact InT.of h.fr ⟨us, va2, vc2, oA q, oC q, oA q5, oC q5, rfl, rfl, rfl⟩ (inFacts h (fun f hf => by rcases List.mem_append.1 hf with hf | hf; rcases List.mem_append.1 hf with hf | hf; exact List.mem_append_left _ (List.mem_append_left _ (List.mem_append_right _ hf)); exact List.mem_append_left _ (List.mem_append_right _ hf); exact List.mem_append_right _ hf) (by intro f hf; rcases List.mem_append.1 hf with hf | hf; rcases List.mem_append.1 hf with hf | hf; exact hnw2 f hf; obtain rfl := List.mem_singleton.1 hf; exact hf65; obtain rfl := List.mem_singleton.1 hf; exact hf4)) (h.at (i := 0) rfl) hc7 hD7 rfl
        ·
          first | (have h2 := of_decide_eq_true h2) | (have h2 := of_decide_eq_false h2) | skip
          refine L_skip rfl rfl rfl rfl rfl rfl rfl ?_
          refine L_skip rfl rfl rfl rfl rfl rfl rfl ?_
          refine L_skip rfl rfl rfl rfl rfl rfl rfl ?_
          refine L_skip rfl rfl rfl rfl rfl rfl rfl ?_
          refine L_skip rfl rfl rfl rfl rfl rfl rfl ?_
          first | refine L_v rfl rfl rfl (V_pickT rfl rfl rfl) ?_ | refine L_v rfl rfl rfl (V_pickF rfl rfl rfl) ?_
          refine L_nil ?_
          change J _ _ _ _
          refine J_false rfl ?_
          refine J_exit ?_
          change J _ _ _ _
          refine J_seq ?_
          refine J_toFactD ([(rb, row 76 [.slice a7 n7 c7, .bool true]), (b1, row 63 (drV 0 (.slice none 0 0) (.slice none 0 0) (.slice none 0 0))), (b2, row 63 (drV p1 (Sl va2 us.length vc2) (ownV q hs.length) (ownV q5 j)))]) rfl hq5 (fun hfp => ?_)
          have hf4 : ∀ k, (factC 4 (ownV q5 j) j (ss.map seV).flatten).fp k → w.heap.size ≤ k := fun k hk => fresh_of (hfp k hk)
          subst hsl
          have hE2 : lsF seF (l', true) = (ss, (l7, true)) := by first | exact (lsF_e hr5).trans (loop_stop hR2) | exact (lsF_e hr5).trans (loop_fin (by omega) hR2)
          refine J_region ?_
          refine L_v rfl rfl rfl (V_loadW 2 rfl rfl rfl Tryz.underlying63 rfl (szd sz63tu (by kernel_rfl))) ?_
          refine L_storeW 1 rfl rfl rfl rfl rfl rfl (szd sz63tu (by kernel_rfl)) (all_one (by kernel_rfl)) (by kernel_rfl) ?_
          refine L_nil ?_
          change J _ _ _ _
          refine J_ret ?_
          change Kret _ _ _ Exit.ret _
          refine ret1 rfl rfl (RV_c 1 rfl rfl Tryz.underlying63 rfl (szd sz63tu (by kernel_rfl))) ?_
          have e9 : drF (l, bd) = _ := prF_e hr1 (prF_e hr2 (prF_e hE1 hE2))
          exact fun w' h => by rw [e9]; exact InT.of h.fr ⟨us, va2, vc2, oA q, oC q, oA q5, oC q5, rfl, rfl, rfl⟩ (inFacts h (fun f hf => by rcases List.mem_append.1 hf with hf | hf; rcases List.mem_append.1 hf with hf | hf; exact List.mem_append_left _ (List.mem_append_left _ (List.mem_append_right _ hf)); exact List.mem_append_left _ (List.mem_append_right _ hf); exact List.mem_append_right _ hf) (by intro f hf; rcases List.mem_append.1 hf with hf | hf; rcases List.mem_append.1 hf with hf | hf; exact hnw2 f hf; obtain rfl := List.mem_singleton.1 hf; exact hf65; obtain rfl := List.mem_singleton.1 hf; exact hf4)) (h.at (i := 0) rfl) hc7 hD7 rfl

end Go.Proofs.YtfgcfjojpakpjaaGreat
