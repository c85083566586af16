/- The test of parts. -/
import Derived.Test.YtejhcdjfcopphaaDoorSha4
set_option linter.unusedVariables false
set_option linter.unusedSimpArgs false
set_option maxRecDepth 100000
namespace Go.Proofs.YtejhcdjfcopphaaDoor
open Go.Sx
theorem LO_both {cx : Cx} {m0 : Mem} {f0 : List Fact} {ops : Array Oper} {K : St → Prop} {st : St} {k1 k2 : Nat} {r1 r2 : Ord} (h1 : LO cx m0 f0 ops K (.one k1 r1) st) (h2 : LO cx m0 f0 ops K (.one k2 r2) st) : LO cx m0 f0 ops K (.two k1 r1 k2 r2) st := fun a w ho => ⟨h1 a w ho, h2 a w ho⟩
theorem egDp : Tryd.prog.eqGuardType Tryd.prog.depth 26 = false := by kernel_rfl
theorem bsP2 (w : World) : (Instr.buildSlice 22 2 [(0, .int .u8 97), (1, .int .u8 98)].toArray).run Tryd.prog w = .ok (.slice (some ⟨w.heap.size, 0, none⟩) 2 2) (w.alloc (row 5 (dg [97, 98]))) := by kernel_rfl
theorem bsP1 (w : World) : (Instr.buildSlice 22 1 [(0, .int .u8 99)].toArray).run Tryd.prog w = .ok (.slice (some ⟨w.heap.size, 0, none⟩) 1 1) (w.alloc (row 5 (dg [99]))) := by kernel_rfl
theorem bsP3 (w : World) : (Instr.buildSlice 22 3 [(0, .int .u8 97), (1, .int .u8 98), (2, .int .u8 99)].toArray).run Tryd.prog w = .ok (.slice (some ⟨w.heap.size, 0, none⟩) 3 3) (w.alloc (row 5 (dg [97, 98, 99]))) := by kernel_rfl
theorem ap_own {cx : Cx} {m : Mem} {fs : List Fact} {w : World} {i j b g : Nat} {p q : Obj} {l : List Int} {n c : Nat} (h : OkW cx m fs w) (hi : m[i]? = some (b, p)) (hj : m[j]? = some (g, q)) (hij : i ≠ j) : ∀ k, (factB (.slice (some ⟨g, 0, none⟩) n c) l).fp k → k ≠ b := by
  rintro k ⟨_, off, n', c', e⟩ rfl
  simp only [Value.slice.injEq, Option.some.injEq, Addr.mk.injEq] at e
  obtain ⟨⟨rfl, _⟩, _⟩ := e
  have h1 : (m.map (·.1))[i]? = some g := by simp [hi]
  have h2 : (m.map (·.1))[j]? = some g := by simp [hj]
  have hli := (List.getElem?_eq_some_iff.1 hi).1
  exact hij ((List.getElem?_inj (by simpa using hli) h.dis).1 (h1.trans h2.symm))
theorem sz5p : (Tryd.prog.info? 5).map (·.size) = some 1 := by kernel_rfl
theorem sz26p : (Tryd.prog.info? 26).map (·.size) = some 32 := by kernel_rfl
theorem tx10p : Txt Tryd.prog 10 := txt_of Tryd.func10 rfl (by kernel_rfl)
theorem tx14p : Txt Tryd.prog 14 := txt_of Tryd.func14 rfl (by kernel_rfl)
theorem tx15p : Txt Tryd.prog 15 := txt_of Tryd.func15 rfl (by kernel_rfl)
theorem tx16p : Txt Tryd.prog 16 := txt_of Tryd.func16 rfl (by kernel_rfl)
theorem tx17p : Txt Tryd.prog 17 := txt_of Tryd.func17 rfl (by kernel_rfl)
theorem z26p : (Tryd.prog.info? 26).bind (·.zero) = some (.agg (dg zd).toArray) := by kernel_rfl

set_option maxHeartbeats 1000000 in
theorem writes_w (w : World) (hK : TabK KT 1 w) :
    Calls Tryd.prog 18 #[] w fun e w' => e = .returned (.bool true) ∧ Fr [] w w' := by
  refine calls_of (args := []) ([]) ([]) ([]) Tryd.func18 rfl rfl (okW0 _ _ _ _) ?_
  refine J_seq ?_
  refine J_region ?_
  refine L_v rfl rfl rfl (V_assign rfl rfl) ?_
  refine L_nil ?_
  change J _ _ _ _
  refine J_seq ?_
  refine J_region ?_
  refine L_call rfl rfl rfl rfl tx14p (fun w1 hw => (hnew_w w1).mono ?_)
  rintro e w' ⟨b0, rfl, hfr0, hsz0, hb0⟩
  refine ⟨_, _, _, rfl, hw.add hfr0 hb0 hsz0, rfl, ?_⟩
  refine L_v rfl rfl rfl (V_assign rfl rfl) ?_
  refine L_nil ?_
  change J _ _ _ _
  refine J_seq ?_
  refine J_seq ?_
  refine J_region ?_
  refine L_v rfl rfl rfl (V_move rfl rfl) ?_
  refine L_v rfl rfl rfl (V_eqP rfl rfl rfl Tryd.underlying31 rfl) ?_
  refine L_nil ?_
  change J _ _ _ _
  refine J_false rfl ?_
  refine J_skip ?_
  change J _ _ _ _
  refine J_seq ?_
  refine J_region ?_
  refine L_v rfl rfl rfl (V_move rfl rfl) ?_
  refine L_buildSlice (vs := [(0, .int .u8 97), (1, .int .u8 98)]) (l := dg [97, 98]) rfl rfl rfl rfl rfl bsP2 (fun b1 => ?_)
  refine L_cons rfl (S_mark 1 rfl rfl rfl rfl Tryd.underlying22 Tryd.underlying5 rfl ?_)
  refine L_call rfl rfl rfl rfl tx15p (fun w1 hw => (write_w b0 R0 (List.replicate 64 0) [] [97, 98] (some ⟨b1, 0, none⟩) 2 2 w1 (hw.at (i := 0) rfl) hs0 (SlB.of_own hw (i := 1) (l := [97, 98]) (r := []) rfl rfl 2) (ap_own hw (i := 0) (j := 1) rfl rfl (by decide)) (by intro x hx; simp at hx; omega) (Nat.le_refl _) (TabK.later hw (by simp) hK) fun e => by have h1 : w.heap.size ≤ b0 := hw.ge rfl (i := 0) rfl; have h2 := hK.lt; omega (by decide)).mono ?_)
  rintro e w' ⟨ws2, bl2, rfl, hfr2, hb2, hs2⟩
  refine ⟨_, _, _, rfl, hw.set (i := 0) rfl hfr2 hb2, rfl, ?_⟩
  refine L_v rfl rfl rfl (V_assign rfl rfl) ?_
  refine L_nil ?_
  change J _ _ _ _
  refine J_seq ?_
  refine J_region ?_
  refine L_v rfl rfl rfl (V_move rfl rfl) ?_
  refine L_callV rfl rfl rfl rfl rfl rfl tx16p (fun w1 hw => hsum_w b0 ws2 bl2 [97, 98] w1 (hw.at (i := 0) rfl) hs2 (TabK.later hw (by simp) hK) (by decide)) ?_
  refine L_alloc rfl rfl rfl rfl z26p (fun b2 => ?_)
  refine L_storeW 2 rfl rfl rfl rfl rfl rfl (szd sz26p (by rw [dg_length]; exact shaP_len _)) (dg_one _) (by rw [dg_length, dg_length, shaP_len]; rfl) ?_
  refine L_nil ?_
  change J _ _ _ _
  refine J_seq ?_
  refine J_region ?_
  refine L_v rfl rfl rfl (V_move rfl rfl) ?_
  refine L_buildSlice (vs := [(0, .int .u8 99)]) (l := dg [99]) rfl rfl rfl rfl rfl bsP1 (fun b3 => ?_)
  refine L_cons rfl (S_mark 3 rfl rfl rfl rfl Tryd.underlying22 Tryd.underlying5 rfl ?_)
  refine L_call rfl rfl rfl rfl tx15p (fun w1 hw => (write_w b0 ws2 bl2 [97, 98] [99] (some ⟨b3, 0, none⟩) 1 1 w1 (hw.at (i := 0) rfl) hs2 (SlB.of_own hw (i := 3) (l := [99]) (r := []) rfl rfl 1) (ap_own hw (i := 0) (j := 3) rfl rfl (by decide)) (by intro x hx; simp at hx; omega) (Nat.le_refl _) (TabK.later hw (by simp) hK) fun e => by have h1 : w.heap.size ≤ b0 := hw.ge rfl (i := 0) rfl; have h2 := hK.lt; omega (by decide)).mono ?_)
  rintro e w' ⟨ws4, bl4, rfl, hfr4, hb4, hs4⟩
  refine ⟨_, _, _, rfl, hw.set (i := 0) rfl hfr4 hb4, rfl, ?_⟩
  refine L_v rfl rfl rfl (V_assign rfl rfl) ?_
  refine L_nil ?_
  change J _ _ _ _
  refine J_seq ?_
  refine J_regionO (.pure 0 (.pure 1 (.pure 2 (.pure 3 (.pure 4 (.pure 5 (.pure 6 (.pure 7 (.one 8 (.one 9 (.one 10 (.pure 11 (.pure 12 (.pure 13 (.pure 14 (.two 15 (.one 16 (.one 17 (.one 18 (.pure 19 (.pure 20 (.pure 21 (.pure 22 (.one 23 (.pure 24 (.pure 25 (.pure 26 (.nil)))))))))))) 16 (.two 15 (.one 17 (.one 18 (.pure 19 (.pure 20 (.pure 21 (.pure 22 (.one 23 (.pure 24 (.pure 25 (.pure 26 (.nil))))))))))) 17 (.one 15 (.one 18 (.pure 19 (.pure 20 (.pure 21 (.pure 22 (.one 23 (.pure 24 (.pure 25 (.pure 26 (.nil)))))))))))))))))))))))))))) ([(b0, _), (b1, _), (b2, _), (b3, _)]) _ (Pk.refl _) (fun f hf => hf) rfl rfl (by kernel_rfl) ?_
  refine LO_v rfl rfl rfl rfl (V_move rfl rfl) ?_
  refine LO_v rfl rfl rfl rfl (V_eql rfl rfl rfl (by first | exact decide_eq_true (by omega) | exact decide_eq_false (by omega) | rfl)) ?_
  refine LO_v rfl rfl rfl rfl (V_move rfl rfl) ?_
  refine LO_wv rfl rfl rfl rfl rfl rfl rfl (V_move rfl rfl) ?_
  refine LO_wv rfl rfl rfl rfl rfl rfl rfl (V_eql rfl rfl rfl (by first | exact decide_eq_true (by omega) | exact decide_eq_false (by omega) | rfl)) ?_
  first | refine LO_v rfl rfl rfl rfl (V_pickT rfl rfl rfl) ?_ | refine LO_v rfl rfl rfl rfl (V_pickF rfl rfl rfl) ?_
  refine LO_v rfl rfl rfl rfl (V_move rfl rfl) ?_
  refine LO_wv rfl rfl rfl rfl rfl rfl rfl (V_loadW 2 rfl rfl rfl Tryd.underlying26 rfl (szd sz26p (by rw [dg_length]; exact shaP_len _))) ?_
  refine LO_sw rfl rfl rfl rfl rfl rfl (S_buildSlice (vs := [(0, .int .u8 97), (1, .int .u8 98)]) (l := dg [97, 98]) rfl rfl rfl rfl bsP2 (fun b4 => ⟨(Pk.app (Pk.refl _) _), fun f hf => hf, ?_⟩)) 
  refine LO_sw rfl rfl rfl rfl rfl rfl (S_mark 4 rfl rfl rfl rfl Tryd.underlying22 Tryd.underlying5 rfl ⟨(Pk.of_sub (.cons_cons _ (.cons_cons _ (.cons_cons _ (.cons_cons _ (List.nil_sublist _)))))), fun f hf => hf, ?_⟩) 
  refine LO_wcallV rfl rfl rfl rfl rfl rfl rfl rfl rfl rfl rfl tx10p (fun w1 hw => ssum_w [97, 98] (some ⟨b4, 0, none⟩) 2 2 w1 (SlB.of_own hw (i := 4) (l := [97, 98]) (r := []) rfl rfl 2) (by intro x hx; simp at hx; omega) (Nat.le_refl _) (TabK.later hw (by simp) hK) (by decide)) (Pk.of_sub (.cons_cons _ (.cons_cons _ (.cons_cons _ (.cons_cons _ (List.nil_sublist _)))))) (fun f hf => hf) ?_
  refine LO_wv rfl rfl rfl rfl rfl rfl rfl (V_eqD rfl rfl rfl egDp Tryd.underlying26 Tryd.underlying5 sz5p (shaP_len _) (shaP_len _) (decide_eq_true rfl)) ?_
  first | refine LO_v rfl rfl rfl rfl (V_pickT rfl rfl rfl) ?_ | refine LO_v rfl rfl rfl rfl (V_pickF rfl rfl rfl) ?_
  refine LO_v rfl rfl rfl rfl (V_move rfl rfl) ?_
  refine LO_wv rfl rfl rfl rfl rfl rfl rfl (V_move rfl rfl) ?_
  refine LO_both ?_ ?_
  ·
    refine LO_wcallV rfl rfl rfl rfl rfl rfl rfl rfl rfl rfl rfl tx16p (fun w1 hw => hsum_w b0 ws4 bl4 [97, 98, 99] w1 (hw.at (i := 0) rfl) hs4 (TabK.later hw (by simp) hK) (by decide)) (Pk.of_sub (.cons_cons _ (.cons_cons _ (.cons_cons _ (.cons_cons _ (List.nil_sublist _)))))) (fun f hf => hf) ?_
    refine LO_sw rfl rfl rfl rfl rfl rfl (S_buildSlice (vs := [(0, .int .u8 97), (1, .int .u8 98), (2, .int .u8 99)]) (l := dg [97, 98, 99]) rfl rfl rfl rfl bsP3 (fun b5 => ⟨(Pk.app (Pk.of_sub (.cons_cons _ (.cons_cons _ (.cons_cons _ (.cons_cons _ (List.nil_sublist _)))))) _), fun f hf => hf, ?_⟩)) 
    refine LO_sw rfl rfl rfl rfl rfl rfl (S_mark 5 rfl rfl rfl rfl Tryd.underlying22 Tryd.underlying5 rfl ⟨(Pk.of_sub (.cons_cons _ (.cons_cons _ (.cons_cons _ (.cons_cons _ (List.nil_sublist _)))))), fun f hf => hf, ?_⟩) 
    refine LO_wcallV rfl rfl rfl rfl rfl rfl rfl rfl rfl rfl rfl tx10p (fun w1 hw => ssum_w [97, 98, 99] (some ⟨b5, 0, none⟩) 3 3 w1 (SlB.of_own hw (i := 5) (l := [97, 98, 99]) (r := []) rfl rfl 3) (by intro x hx; simp at hx; omega) (Nat.le_refl _) (TabK.later hw (by simp) hK) (by decide)) (Pk.of_sub (.cons_cons _ (.cons_cons _ (.cons_cons _ (.cons_cons _ (List.nil_sublist _)))))) (fun f hf => hf) ?_
    refine LO_wv rfl rfl rfl rfl rfl rfl rfl (V_eqD rfl rfl rfl egDp Tryd.underlying26 Tryd.underlying5 sz5p (shaP_len _) (shaP_len _) (decide_eq_true rfl)) ?_
    first | refine LO_v rfl rfl rfl rfl (V_pickT rfl rfl rfl) ?_ | refine LO_v rfl rfl rfl rfl (V_pickF rfl rfl rfl) ?_
    refine LO_v rfl rfl rfl rfl (V_move rfl rfl) ?_
    refine LO_wv rfl rfl rfl rfl rfl rfl rfl (V_move rfl rfl) ?_
    refine LO_wcallV rfl rfl rfl rfl rfl rfl rfl rfl rfl rfl rfl tx17p (fun w1 hw => hlen_w b0 ws4 bl4 3 w1 (hw.at (i := 0) rfl) hs4.len) (Pk.of_sub (.cons_cons _ (.cons_cons _ (.cons_cons _ (.cons_cons _ (List.nil_sublist _)))))) (fun f hf => hf) ?_
    refine LO_wv rfl rfl rfl rfl rfl rfl rfl (V_eql rfl rfl rfl (by first | exact decide_eq_true (by omega) | exact decide_eq_false (by omega) | rfl)) ?_
    first | refine LO_v rfl rfl rfl rfl (V_pickT rfl rfl rfl) ?_ | refine LO_v rfl rfl rfl rfl (V_pickF rfl rfl rfl) ?_
    refine LO_v rfl rfl rfl rfl (V_assign rfl rfl) ?_
    refine LO_nil ?_
    change J _ _ _ _
    refine J_ret ?_
    change Kret _ _ _ Exit.ret _
    refine ret1 rfl rfl (RV_t rfl) ?_
    exact fun w' h => ⟨rfl, h.fr⟩
  ·
    refine LO_sw rfl rfl rfl rfl rfl rfl (S_buildSlice (vs := [(0, .int .u8 97), (1, .int .u8 98), (2, .int .u8 99)]) (l := dg [97, 98, 99]) rfl rfl rfl rfl bsP3 (fun b5 => ⟨(Pk.app (Pk.of_sub (.cons_cons _ (.cons_cons _ (.cons_cons _ (.cons_cons _ (List.nil_sublist _)))))) _), fun f hf => hf, ?_⟩)) 
    refine LO_both ?_ ?_
    ·
      refine LO_wcallV rfl rfl rfl rfl rfl rfl rfl rfl rfl rfl rfl tx16p (fun w1 hw => hsum_w b0 ws4 bl4 [97, 98, 99] w1 (hw.at (i := 0) rfl) hs4 (TabK.later hw (by simp) hK) (by decide)) (Pk.app (Pk.of_sub (.cons_cons _ (.cons_cons _ (.cons_cons _ (.cons_cons _ (List.nil_sublist _)))))) _) (fun f hf => hf) ?_
      refine LO_sw rfl rfl rfl rfl rfl rfl (S_mark 5 rfl rfl rfl rfl Tryd.underlying22 Tryd.underlying5 rfl ⟨(Pk.of_sub (.cons_cons _ (.cons_cons _ (.cons_cons _ (.cons_cons _ (List.nil_sublist _)))))), fun f hf => hf, ?_⟩) 
      refine LO_wcallV rfl rfl rfl rfl rfl rfl rfl rfl rfl rfl rfl tx10p (fun w1 hw => ssum_w [97, 98, 99] (some ⟨b5, 0, none⟩) 3 3 w1 (SlB.of_own hw (i := 5) (l := [97, 98, 99]) (r := []) rfl rfl 3) (by intro x hx; simp at hx; omega) (Nat.le_refl _) (TabK.later hw (by simp) hK) (by decide)) (Pk.of_sub (.cons_cons _ (.cons_cons _ (.cons_cons _ (.cons_cons _ (List.nil_sublist _)))))) (fun f hf => hf) ?_
      refine LO_wv rfl rfl rfl rfl rfl rfl rfl (V_eqD rfl rfl rfl egDp Tryd.underlying26 Tryd.underlying5 sz5p (shaP_len _) (shaP_len _) (decide_eq_true rfl)) ?_
      first | refine LO_v rfl rfl rfl rfl (V_pickT rfl rfl rfl) ?_ | refine LO_v rfl rfl rfl rfl (V_pickF rfl rfl rfl) ?_
      refine LO_v rfl rfl rfl rfl (V_move rfl rfl) ?_
      refine LO_wv rfl rfl rfl rfl rfl rfl rfl (V_move rfl rfl) ?_
      refine LO_wcallV rfl rfl rfl rfl rfl rfl rfl rfl rfl rfl rfl tx17p (fun w1 hw => hlen_w b0 ws4 bl4 3 w1 (hw.at (i := 0) rfl) hs4.len) (Pk.of_sub (.cons_cons _ (.cons_cons _ (.cons_cons _ (.cons_cons _ (List.nil_sublist _)))))) (fun f hf => hf) ?_
      refine LO_wv rfl rfl rfl rfl rfl rfl rfl (V_eql rfl rfl rfl (by first | exact decide_eq_true (by omega) | exact decide_eq_false (by omega) | rfl)) ?_
      first | refine LO_v rfl rfl rfl rfl (V_pickT rfl rfl rfl) ?_ | refine LO_v rfl rfl rfl rfl (V_pickF rfl rfl rfl) ?_
      refine LO_v rfl rfl rfl rfl (V_assign rfl rfl) ?_
      refine LO_nil ?_
      change J _ _ _ _
      refine J_ret ?_
      change Kret _ _ _ Exit.ret _
      refine ret1 rfl rfl (RV_t rfl) ?_
      exact fun w' h => ⟨rfl, h.fr⟩
    ·
      refine LO_sw rfl rfl rfl rfl rfl rfl (S_mark 5 rfl rfl rfl rfl Tryd.underlying22 Tryd.underlying5 rfl ⟨(Pk.of_sub (.cons_cons _ (.cons_cons _ (.cons_cons _ (.cons_cons _ (List.nil_sublist _)))))), fun f hf => hf, ?_⟩) 
      refine LO_wcallV rfl rfl rfl rfl rfl rfl rfl rfl rfl rfl rfl tx16p (fun w1 hw => hsum_w b0 ws4 bl4 [97, 98, 99] w1 (hw.at (i := 0) rfl) hs4 (TabK.later hw (by simp) hK) (by decide)) (Pk.of_sub (.cons_cons _ (.cons_cons _ (.cons_cons _ (.cons_cons _ (List.nil_sublist _)))))) (fun f hf => hf) ?_
      refine LO_wcallV rfl rfl rfl rfl rfl rfl rfl rfl rfl rfl rfl tx10p (fun w1 hw => ssum_w [97, 98, 99] (some ⟨b5, 0, none⟩) 3 3 w1 (SlB.of_own hw (i := 5) (l := [97, 98, 99]) (r := []) rfl rfl 3) (by intro x hx; simp at hx; omega) (Nat.le_refl _) (TabK.later hw (by simp) hK) (by decide)) (Pk.of_sub (.cons_cons _ (.cons_cons _ (.cons_cons _ (.cons_cons _ (List.nil_sublist _)))))) (fun f hf => hf) ?_
      refine LO_wv rfl rfl rfl rfl rfl rfl rfl (V_eqD rfl rfl rfl egDp Tryd.underlying26 Tryd.underlying5 sz5p (shaP_len _) (shaP_len _) (decide_eq_true rfl)) ?_
      first | refine LO_v rfl rfl rfl rfl (V_pickT rfl rfl rfl) ?_ | refine LO_v rfl rfl rfl rfl (V_pickF rfl rfl rfl) ?_
      refine LO_v rfl rfl rfl rfl (V_move rfl rfl) ?_
      refine LO_wv rfl rfl rfl rfl rfl rfl rfl (V_move rfl rfl) ?_
      refine LO_wcallV rfl rfl rfl rfl rfl rfl rfl rfl rfl rfl rfl tx17p (fun w1 hw => hlen_w b0 ws4 bl4 3 w1 (hw.at (i := 0) rfl) hs4.len) (Pk.of_sub (.cons_cons _ (.cons_cons _ (.cons_cons _ (.cons_cons _ (List.nil_sublist _)))))) (fun f hf => hf) ?_
      refine LO_wv rfl rfl rfl rfl rfl rfl rfl (V_eql rfl rfl rfl (by first | exact decide_eq_true (by omega) | exact decide_eq_false (by omega) | rfl)) ?_
      first | refine LO_v rfl rfl rfl rfl (V_pickT rfl rfl rfl) ?_ | refine LO_v rfl rfl rfl rfl (V_pickF rfl rfl rfl) ?_
      refine LO_v rfl rfl rfl rfl (V_assign rfl rfl) ?_
      refine LO_nil ?_
      change J _ _ _ _
      refine J_ret ?_
      change Kret _ _ _ Exit.ret _
      refine ret1 rfl rfl (RV_t rfl) ?_
      exact fun w' h => ⟨rfl, h.fr⟩

end Go.Proofs.YtejhcdjfcopphaaDoor
