/- What is saved, all of it in memory of its own. -/
import Derived.Test.YtcdenfkbhefbbaaV2
set_option linter.unusedVariables false
set_option linter.unusedSimpArgs false
set_option maxRecDepth 100000
namespace Go.Proofs.Ytcdenfkbhefbbaa
open Go.Sx
theorem sz26q : (Try.prog.info? 26).map (·.size) = some 5 := by kernel_rfl
theorem sz27q : (Try.prog.info? 27).map (·.size) = some 1 := by kernel_rfl
theorem sz28q : (Try.prog.info? 28).map (·.size) = some 1 := by kernel_rfl
theorem sz30q : (Try.prog.info? 30).map (·.size) = some 9 := by kernel_rfl
theorem tx43q : Txt Try.prog 43 := txt_of Try.func43 rfl (by kernel_rfl)
theorem tx44q : Txt Try.prog 44 := txt_of Try.func44 rfl (by kernel_rfl)
theorem tx45q : Txt Try.prog 45 := txt_of Try.func45 rfl (by kernel_rfl)
theorem z30q : (Try.prog.info? 30).bind (·.zero) = some (.agg [.int .i64 0, .int .i64 0, .int .i64 0, .int .i64 0, .slice none 0 0, .slice none 0 0, .string ByteArray.empty, .slice none 0 0, .slice none 0 0].toArray) := by kernel_rfl

set_option maxHeartbeats 40000000 in
theorem own_w (t v : Int) (sn : Sn) (a b : Sp) (es : List EnV) (s : Sp) (gl : List Sg) (s3 : Sp) (w : World) (f1 : FA w (clA sn.2.2.1 a b)) (f2 : FA w (esA es s)) (f3 : FA w (sgA gl s3)) (hB : SzC sn.2.2.1) (hE : ∀ p ∈ es, SzC p.1.2.2.2.2) (hBe : es.length ≤ 549755813888) (hBg : gl.length ≤ 549755813888) :
    Calls Try.prog 22 #[.agg (svC t v sn a b (.slice s.1 es.length s.2) (.slice s3.1 gl.length s3.2)).toArray] w fun e w' => ∃ (s1 s2 : Sp) (q1 q3 : OwnR) (gs : List EnV), e = .returned (.agg (svC t v sn s1 s2 (ownV q1 es.length) (ownV q3 gl.length)).toArray) ∧ gs.map Prod.fst = es.map Prod.fst ∧ Fr [] w w' ∧ OwnC 43 q1 es.length (gs.map enW).flatten ∧ OwnC 97 q3 gl.length (gl.map sgV).flatten ∧ NewL w w' (ownM 39 q1 (gs.map enW).flatten ++ ownM 43 q3 (gl.map sgV).flatten) [clT 3 sn.2.2.1 s1 s2, allF (gs.map (enT 3))] := by
  refine calls_of (args := [.agg (svC t v sn a b (.slice s.1 es.length s.2) (.slice s3.1 gl.length s3.2)).toArray]) ([]) ([]) ([clA sn.2.2.1 a b, esA es s, sgA gl s3]) Try.func22 rfl rfl (okFW (.cons f1 (.cons f2 (.cons f3 .nil)))) ?_
  refine J_seq ?_
  refine J_region ?_
  refine L_box rfl rfl rfl rfl rfl (fun b0 => ?_)
  refine L_alloc rfl rfl rfl rfl z30q (fun b1 => ?_)
  refine L_nil ?_
  change J _ _ _ _
  refine J_seq ?_
  refine J_regionO (.pure 0 (.pure 3 (.pure 6 (.three 1 (.three 2 (.two 4 (.two 5 (.one 7 (.pure 9 (.one 8 (.one 10 (.pure 11 (.one 12 (.pure 13 (.one 14 (.nil))))))))) 7 (.pure 9 (.one 5 (.one 8 (.one 10 (.pure 11 (.one 12 (.pure 13 (.one 14 (.nil)))))))))) 7 (.one 4 (.pure 9 (.one 5 (.one 8 (.one 10 (.pure 11 (.one 12 (.pure 13 (.one 14 (.nil))))))))))) 4 (.two 2 (.two 5 (.one 7 (.pure 9 (.one 8 (.one 10 (.pure 11 (.one 12 (.pure 13 (.one 14 (.nil))))))))) 7 (.pure 9 (.one 5 (.one 8 (.one 10 (.pure 11 (.one 12 (.pure 13 (.one 14 (.nil)))))))))) 7 (.one 2 (.pure 9 (.one 5 (.one 8 (.one 10 (.pure 11 (.one 12 (.pure 13 (.one 14 (.nil))))))))))) 7 (.two 2 (.one 4 (.pure 9 (.one 5 (.one 8 (.one 10 (.pure 11 (.one 12 (.pure 13 (.one 14 (.nil)))))))))) 4 (.one 2 (.pure 9 (.one 5 (.one 8 (.one 10 (.pure 11 (.one 12 (.pure 13 (.one 14 (.nil)))))))))))) 4 (.two 1 (.two 2 (.two 5 (.one 7 (.pure 9 (.one 8 (.one 10 (.pure 11 (.one 12 (.pure 13 (.one 14 (.nil))))))))) 7 (.pure 9 (.one 5 (.one 8 (.one 10 (.pure 11 (.one 12 (.pure 13 (.one 14 (.nil)))))))))) 7 (.one 2 (.pure 9 (.one 5 (.one 8 (.one 10 (.pure 11 (.one 12 (.pure 13 (.one 14 (.nil))))))))))) 7 (.one 1 (.one 2 (.pure 9 (.one 5 (.one 8 (.one 10 (.pure 11 (.one 12 (.pure 13 (.one 14 (.nil)))))))))))) 7 (.two 1 (.two 2 (.one 4 (.pure 9 (.one 5 (.one 8 (.one 10 (.pure 11 (.one 12 (.pure 13 (.one 14 (.nil)))))))))) 4 (.one 2 (.pure 9 (.one 5 (.one 8 (.one 10 (.pure 11 (.one 12 (.pure 13 (.one 14 (.nil))))))))))) 4 (.one 1 (.one 2 (.pure 9 (.one 5 (.one 8 (.one 10 (.pure 11 (.one 12 (.pure 13 (.one 14 (.nil)))))))))))))))) ([(b1, row 30 ([.int .i64 0, .int .i64 0, .int .i64 0, .int .i64 0, .slice none 0 0, .slice none 0 0, .string ByteArray.empty, .slice none 0 0, .slice none 0 0]))]) _ (Pk.of_sub (List.Sublist.cons _ (List.Sublist.cons_cons _ (List.nil_sublist _)))) (fun f hf => hf) rfl rfl (by kernel_rfl) ?_
  refine LO_v rfl rfl rfl rfl (V_fieldAddr rfl rfl Try.underlying30 rfl sz26q rfl) ?_
  refine LO_v rfl rfl rfl rfl (V_fieldAddr rfl rfl Try.underlying30 rfl sz27q rfl) ?_
  refine LO_v rfl rfl rfl rfl (V_fieldAddr rfl rfl Try.underlying30 rfl sz28q rfl) ?_
  refine LO_three ?_ ?_ ?_
  ·
    refine LO_s rfl rfl rfl (S_v rfl rfl (V_loadT 0 (vs := snX sn a b) rfl rfl rfl Try.underlying26 rfl sz26q (by kernel_rfl) (by kernel_rfl)) ⟨(Pk.of_sub (List.Sublist.cons _ (List.Sublist.cons_cons _ (List.nil_sublist _)))), (fun f hf => hf), ?_⟩)
    refine LO_three ?_ ?_ ?_
    ·
      refine LO_s rfl rfl rfl (S_call rfl rfl rfl tx43q (fun w1 hw => (ownSnapP_w sn a b w1 (hw.fa 0 rfl) hB).mono ?_))
      rintro e w' ⟨s1, s2, rfl, hfr, hn1⟩
      have n1 : ∀ k, (clT 3 sn.2.2.1 s1 s2).fp k → w.heap.size ≤ k := fun k hk => Nat.le_trans hw.fr.size (hn1.new k hk)
      refine ⟨_, _, _, rfl, hw.newN hfr hn1, rfl, (Pk.of_sub (List.Sublist.cons _ (List.Sublist.cons_cons _ (List.nil_sublist _)))), (fun f hf => List.mem_append_left _ (hf)), ?_⟩
      refine LO_both ?_ ?_
      ·
        refine LO_s rfl rfl rfl (S_v rfl rfl (V_load1 0 rfl rfl rfl Try.underlying27 rfl (by rfl)) ⟨(Pk.of_sub (List.Sublist.cons _ (List.Sublist.cons_cons _ (List.nil_sublist _)))), (fun f hf => List.mem_append_left _ (hf)), ?_⟩)
        refine LO_both ?_ ?_
        ·
          refine LO_s rfl rfl rfl (S_call rfl rfl rfl tx44q (fun w1 hw => (ownEntries_w es s w1 (hw.fa 1 rfl) hE hBe).mono ?_))
          rintro e w' ⟨q1, gs, rfl, hgs, hfr, hq1, hn2⟩
          have n2 : ∀ k, (allF (gs.map (enT 3))).fp k → w.heap.size ≤ k := fun k hk => Nat.le_trans hw.fr.size ((hn2.fa _ (List.mem_singleton.2 rfl)).new k hk)
          refine ⟨_, _, _, rfl, hw.addL hfr hn2, rfl, (Pk.app (Pk.of_sub (List.Sublist.cons _ (List.Sublist.cons_cons _ (List.nil_sublist _)))) _), (fun f hf => List.mem_append_left _ (List.mem_append_left _ (hf))), ?_⟩
          refine LO_s rfl rfl rfl (S_v rfl rfl (V_load1 0 rfl rfl rfl Try.underlying28 rfl (by rfl)) ⟨(Pk.app (Pk.of_sub (List.Sublist.cons _ (List.Sublist.cons_cons _ (List.nil_sublist _)))) _), (fun f hf => List.mem_append_left _ (List.mem_append_left _ (hf))), ?_⟩)
          refine LO_v rfl rfl rfl rfl (V_fieldAddr rfl rfl Try.underlying30 rfl sz26q rfl) ?_
          refine LO_s rfl rfl rfl (S_call rfl rfl rfl tx45q (fun w1 hw => (cloneG_w s3 gl w1 (hw.fa 2 rfl) hBg).mono ?_))
          rintro e w' ⟨q3, rfl, hfr, hq3⟩
          refine ⟨_, _, _, rfl, hw.addOwn hfr hq3, rfl, (Pk.app (Pk.app (Pk.of_sub (List.Sublist.cons _ (List.Sublist.cons_cons _ (List.nil_sublist _)))) _) _), (fun f hf => List.mem_append_left _ (List.mem_append_left _ (hf))), ?_⟩
          refine LO_s rfl rfl rfl (S_store 0 (l' := svC t v sn s1 s2 (.slice s.1 es.length s.2) (.slice s3.1 gl.length s3.2)) rfl rfl rfl rfl rfl rfl (szd sz26q (by kernel_rfl)) (all_one (by kernel_rfl)) (Nat.le_of_ble_eq_true (by kernel_rfl)) (by kernel_rfl) ⟨(Pk.app (Pk.app (Pk.of_sub (List.Sublist.cons _ (List.Sublist.cons_cons _ (List.nil_sublist _)))) _) _), (fun f hf => List.mem_append_left _ (List.mem_append_left _ (hf))), ?_⟩)
          refine LO_v rfl rfl rfl rfl (V_fieldAddr rfl rfl Try.underlying30 rfl sz27q rfl) ?_
          refine LO_s rfl rfl rfl (S_store1 0 (l' := svC t v sn s1 s2 (ownV q1 es.length) (.slice s3.1 gl.length s3.2)) rfl rfl rfl rfl rfl rfl sz27q (Nat.le_of_ble_eq_true (by kernel_rfl)) (by kernel_rfl) ⟨(Pk.app (Pk.app (Pk.of_sub (List.Sublist.cons _ (List.Sublist.cons_cons _ (List.nil_sublist _)))) _) _), (fun f hf => List.mem_append_left _ (List.mem_append_left _ (hf))), ?_⟩)
          refine LO_v rfl rfl rfl rfl (V_fieldAddr rfl rfl Try.underlying30 rfl sz28q rfl) ?_
          refine LO_s rfl rfl rfl (S_store1 0 (l' := svC t v sn s1 s2 (ownV q1 es.length) (ownV q3 gl.length)) rfl rfl rfl rfl rfl rfl sz28q (Nat.le_of_ble_eq_true (by kernel_rfl)) (by kernel_rfl) ⟨(Pk.app (Pk.app (Pk.of_sub (List.Sublist.cons _ (List.Sublist.cons_cons _ (List.nil_sublist _)))) _) _), (fun f hf => List.mem_append_left _ (List.mem_append_left _ (hf))), ?_⟩)
          refine LO_nil ?_
          change J _ _ _ _
          refine J_seq ?_
          refine J_region ?_
          refine L_v rfl rfl rfl (V_loadT 0 (vs := svC t v sn s1 s2 (ownV q1 es.length) (ownV q3 gl.length)) rfl rfl rfl Try.underlying30 rfl sz30q (by kernel_rfl) (by kernel_rfl)) ?_
          refine L_storeW 1 rfl rfl rfl rfl rfl rfl (szd sz30q (by kernel_rfl)) (all_one (by kernel_rfl)) (by kernel_rfl) ?_
          refine L_nil ?_
          change J _ _ _ _
          refine J_ret ?_
          change Kret _ _ _ Exit.ret _
          refine ret1 rfl rfl (RV_c 1 rfl rfl Try.underlying30 rfl (szd sz30q (by kernel_rfl))) ?_
          exact fun w' h => ⟨s1, s2, q1, q3, gs, rfl, hgs, h.fr, hq1, hq3.own, NewL.of h rfl (List.Sublist.cons _ (List.Sublist.cons _ (List.Sublist.refl _))) (fun f hf => by
            rcases List.mem_cons.1 hf with rfl | hf
            · exact List.mem_append_left _ (List.mem_append_right _ (List.mem_singleton.2 rfl))
            · exact List.mem_append_right _ hf) (fun f hf => by
            rcases List.mem_cons.1 hf with rfl | hf
            · exact n1
            · obtain rfl := List.mem_singleton.1 hf
              exact n2)⟩
        ·
          refine LO_s rfl rfl rfl (S_v rfl rfl (V_load1 0 rfl rfl rfl Try.underlying28 rfl (by rfl)) ⟨(Pk.of_sub (List.Sublist.cons _ (List.Sublist.cons_cons _ (List.nil_sublist _)))), (fun f hf => List.mem_append_left _ (hf)), ?_⟩)
          refine LO_v rfl rfl rfl rfl (V_fieldAddr rfl rfl Try.underlying30 rfl sz26q rfl) ?_
          refine LO_s rfl rfl rfl (S_call rfl rfl rfl tx44q (fun w1 hw => (ownEntries_w es s w1 (hw.fa 1 rfl) hE hBe).mono ?_))
          rintro e w' ⟨q1, gs, rfl, hgs, hfr, hq1, hn2⟩
          have n2 : ∀ k, (allF (gs.map (enT 3))).fp k → w.heap.size ≤ k := fun k hk => Nat.le_trans hw.fr.size ((hn2.fa _ (List.mem_singleton.2 rfl)).new k hk)
          refine ⟨_, _, _, rfl, hw.addL hfr hn2, rfl, (Pk.app (Pk.of_sub (List.Sublist.cons _ (List.Sublist.cons_cons _ (List.nil_sublist _)))) _), (fun f hf => List.mem_append_left _ (List.mem_append_left _ (hf))), ?_⟩
          refine LO_s rfl rfl rfl (S_call rfl rfl rfl tx45q (fun w1 hw => (cloneG_w s3 gl w1 (hw.fa 2 rfl) hBg).mono ?_))
          rintro e w' ⟨q3, rfl, hfr, hq3⟩
          refine ⟨_, _, _, rfl, hw.addOwn hfr hq3, rfl, (Pk.app (Pk.app (Pk.of_sub (List.Sublist.cons _ (List.Sublist.cons_cons _ (List.nil_sublist _)))) _) _), (fun f hf => List.mem_append_left _ (List.mem_append_left _ (hf))), ?_⟩
          refine LO_s rfl rfl rfl (S_store 0 (l' := svC t v sn s1 s2 (.slice s.1 es.length s.2) (.slice s3.1 gl.length s3.2)) rfl rfl rfl rfl rfl rfl (szd sz26q (by kernel_rfl)) (all_one (by kernel_rfl)) (Nat.le_of_ble_eq_true (by kernel_rfl)) (by kernel_rfl) ⟨(Pk.app (Pk.app (Pk.of_sub (List.Sublist.cons _ (List.Sublist.cons_cons _ (List.nil_sublist _)))) _) _), (fun f hf => List.mem_append_left _ (List.mem_append_left _ (hf))), ?_⟩)
          refine LO_v rfl rfl rfl rfl (V_fieldAddr rfl rfl Try.underlying30 rfl sz27q rfl) ?_
          refine LO_s rfl rfl rfl (S_store1 0 (l' := svC t v sn s1 s2 (ownV q1 es.length) (.slice s3.1 gl.length s3.2)) rfl rfl rfl rfl rfl rfl sz27q (Nat.le_of_ble_eq_true (by kernel_rfl)) (by kernel_rfl) ⟨(Pk.app (Pk.app (Pk.of_sub (List.Sublist.cons _ (List.Sublist.cons_cons _ (List.nil_sublist _)))) _) _), (fun f hf => List.mem_append_left _ (List.mem_append_left _ (hf))), ?_⟩)
          refine LO_v rfl rfl rfl rfl (V_fieldAddr rfl rfl Try.underlying30 rfl sz28q rfl) ?_
          refine LO_s rfl rfl rfl (S_store1 0 (l' := svC t v sn s1 s2 (ownV q1 es.length) (ownV q3 gl.length)) rfl rfl rfl rfl rfl rfl sz28q (Nat.le_of_ble_eq_true (by kernel_rfl)) (by kernel_rfl) ⟨(Pk.app (Pk.app (Pk.of_sub (List.Sublist.cons _ (List.Sublist.cons_cons _ (List.nil_sublist _)))) _) _), (fun f hf => List.mem_append_left _ (List.mem_append_left _ (hf))), ?_⟩)
          refine LO_nil ?_
          change J _ _ _ _
          refine J_seq ?_
          refine J_region ?_
          refine L_v rfl rfl rfl (V_loadT 0 (vs := svC t v sn s1 s2 (ownV q1 es.length) (ownV q3 gl.length)) rfl rfl rfl Try.underlying30 rfl sz30q (by kernel_rfl) (by kernel_rfl)) ?_
          refine L_storeW 1 rfl rfl rfl rfl rfl rfl (szd sz30q (by kernel_rfl)) (all_one (by kernel_rfl)) (by kernel_rfl) ?_
          refine L_nil ?_
          change J _ _ _ _
          refine J_ret ?_
          change Kret _ _ _ Exit.ret _
          refine ret1 rfl rfl (RV_c 1 rfl rfl Try.underlying30 rfl (szd sz30q (by kernel_rfl))) ?_
          exact fun w' h => ⟨s1, s2, q1, q3, gs, rfl, hgs, h.fr, hq1, hq3.own, NewL.of h rfl (List.Sublist.cons _ (List.Sublist.cons _ (List.Sublist.refl _))) (fun f hf => by
            rcases List.mem_cons.1 hf with rfl | hf
            · exact List.mem_append_left _ (List.mem_append_right _ (List.mem_singleton.2 rfl))
            · exact List.mem_append_right _ hf) (fun f hf => by
            rcases List.mem_cons.1 hf with rfl | hf
            · exact n1
            · obtain rfl := List.mem_singleton.1 hf
              exact n2)⟩
      ·
        refine LO_s rfl rfl rfl (S_v rfl rfl (V_load1 0 rfl rfl rfl Try.underlying28 rfl (by rfl)) ⟨(Pk.of_sub (List.Sublist.cons _ (List.Sublist.cons_cons _ (List.nil_sublist _)))), (fun f hf => List.mem_append_left _ (hf)), ?_⟩)
        refine LO_s rfl rfl rfl (S_v rfl rfl (V_load1 0 rfl rfl rfl Try.underlying27 rfl (by rfl)) ⟨(Pk.of_sub (List.Sublist.cons _ (List.Sublist.cons_cons _ (List.nil_sublist _)))), (fun f hf => List.mem_append_left _ (hf)), ?_⟩)
        refine LO_v rfl rfl rfl rfl (V_fieldAddr rfl rfl Try.underlying30 rfl sz26q rfl) ?_
        refine LO_s rfl rfl rfl (S_call rfl rfl rfl tx44q (fun w1 hw => (ownEntries_w es s w1 (hw.fa 1 rfl) hE hBe).mono ?_))
        rintro e w' ⟨q1, gs, rfl, hgs, hfr, hq1, hn2⟩
        have n2 : ∀ k, (allF (gs.map (enT 3))).fp k → w.heap.size ≤ k := fun k hk => Nat.le_trans hw.fr.size ((hn2.fa _ (List.mem_singleton.2 rfl)).new k hk)
        refine ⟨_, _, _, rfl, hw.addL hfr hn2, rfl, (Pk.app (Pk.of_sub (List.Sublist.cons _ (List.Sublist.cons_cons _ (List.nil_sublist _)))) _), (fun f hf => List.mem_append_left _ (List.mem_append_left _ (hf))), ?_⟩
        refine LO_s rfl rfl rfl (S_call rfl rfl rfl tx45q (fun w1 hw => (cloneG_w s3 gl w1 (hw.fa 2 rfl) hBg).mono ?_))
        rintro e w' ⟨q3, rfl, hfr, hq3⟩
        refine ⟨_, _, _, rfl, hw.addOwn hfr hq3, rfl, (Pk.app (Pk.app (Pk.of_sub (List.Sublist.cons _ (List.Sublist.cons_cons _ (List.nil_sublist _)))) _) _), (fun f hf => List.mem_append_left _ (List.mem_append_left _ (hf))), ?_⟩
        refine LO_s rfl rfl rfl (S_store 0 (l' := svC t v sn s1 s2 (.slice s.1 es.length s.2) (.slice s3.1 gl.length s3.2)) rfl rfl rfl rfl rfl rfl (szd sz26q (by kernel_rfl)) (all_one (by kernel_rfl)) (Nat.le_of_ble_eq_true (by kernel_rfl)) (by kernel_rfl) ⟨(Pk.app (Pk.app (Pk.of_sub (List.Sublist.cons _ (List.Sublist.cons_cons _ (List.nil_sublist _)))) _) _), (fun f hf => List.mem_append_left _ (List.mem_append_left _ (hf))), ?_⟩)
        refine LO_v rfl rfl rfl rfl (V_fieldAddr rfl rfl Try.underlying30 rfl sz27q rfl) ?_
        refine LO_s rfl rfl rfl (S_store1 0 (l' := svC t v sn s1 s2 (ownV q1 es.length) (.slice s3.1 gl.length s3.2)) rfl rfl rfl rfl rfl rfl sz27q (Nat.le_of_ble_eq_true (by kernel_rfl)) (by kernel_rfl) ⟨(Pk.app (Pk.app (Pk.of_sub (List.Sublist.cons _ (List.Sublist.cons_cons _ (List.nil_sublist _)))) _) _), (fun f hf => List.mem_append_left _ (List.mem_append_left _ (hf))), ?_⟩)
        refine LO_v rfl rfl rfl rfl (V_fieldAddr rfl rfl Try.underlying30 rfl sz28q rfl) ?_
        refine LO_s rfl rfl rfl (S_store1 0 (l' := svC t v sn s1 s2 (ownV q1 es.length) (ownV q3 gl.length)) rfl rfl rfl rfl rfl rfl sz28q (Nat.le_of_ble_eq_true (by kernel_rfl)) (by kernel_rfl) ⟨(Pk.app (Pk.app (Pk.of_sub (List.Sublist.cons _ (List.Sublist.cons_cons _ (List.nil_sublist _)))) _) _), (fun f hf => List.mem_append_left _ (List.mem_append_left _ (hf))), ?_⟩)
        refine LO_nil ?_
        change J _ _ _ _
        refine J_seq ?_
        refine J_region ?_
        refine L_v rfl rfl rfl (V_loadT 0 (vs := svC t v sn s1 s2 (ownV q1 es.length) (ownV q3 gl.length)) rfl rfl rfl Try.underlying30 rfl sz30q (by kernel_rfl) (by kernel_rfl)) ?_
        refine L_storeW 1 rfl rfl rfl rfl rfl rfl (szd sz30q (by kernel_rfl)) (all_one (by kernel_rfl)) (by kernel_rfl) ?_
        refine L_nil ?_
        change J _ _ _ _
        refine J_ret ?_
        change Kret _ _ _ Exit.ret _
        refine ret1 rfl rfl (RV_c 1 rfl rfl Try.underlying30 rfl (szd sz30q (by kernel_rfl))) ?_
        exact fun w' h => ⟨s1, s2, q1, q3, gs, rfl, hgs, h.fr, hq1, hq3.own, NewL.of h rfl (List.Sublist.cons _ (List.Sublist.cons _ (List.Sublist.refl _))) (fun f hf => by
          rcases List.mem_cons.1 hf with rfl | hf
          · exact List.mem_append_left _ (List.mem_append_right _ (List.mem_singleton.2 rfl))
          · exact List.mem_append_right _ hf) (fun f hf => by
          rcases List.mem_cons.1 hf with rfl | hf
          · exact n1
          · obtain rfl := List.mem_singleton.1 hf
            exact n2)⟩
    ·
      refine LO_s rfl rfl rfl (S_v rfl rfl (V_load1 0 rfl rfl rfl Try.underlying27 rfl (by rfl)) ⟨(Pk.of_sub (List.Sublist.cons _ (List.Sublist.cons_cons _ (List.nil_sublist _)))), (fun f hf => hf), ?_⟩)
      refine LO_both ?_ ?_
      ·
        refine LO_s rfl rfl rfl (S_call rfl rfl rfl tx43q (fun w1 hw => (ownSnapP_w sn a b w1 (hw.fa 0 rfl) hB).mono ?_))
        rintro e w' ⟨s1, s2, rfl, hfr, hn1⟩
        have n1 : ∀ k, (clT 3 sn.2.2.1 s1 s2).fp k → w.heap.size ≤ k := fun k hk => Nat.le_trans hw.fr.size (hn1.new k hk)
        refine ⟨_, _, _, rfl, hw.newN hfr hn1, rfl, (Pk.of_sub (List.Sublist.cons _ (List.Sublist.cons_cons _ (List.nil_sublist _)))), (fun f hf => List.mem_append_left _ (hf)), ?_⟩
        refine LO_both ?_ ?_
        ·
          refine LO_s rfl rfl rfl (S_call rfl rfl rfl tx44q (fun w1 hw => (ownEntries_w es s w1 (hw.fa 1 rfl) hE hBe).mono ?_))
          rintro e w' ⟨q1, gs, rfl, hgs, hfr, hq1, hn2⟩
          have n2 : ∀ k, (allF (gs.map (enT 3))).fp k → w.heap.size ≤ k := fun k hk => Nat.le_trans hw.fr.size ((hn2.fa _ (List.mem_singleton.2 rfl)).new k hk)
          refine ⟨_, _, _, rfl, hw.addL hfr hn2, rfl, (Pk.app (Pk.of_sub (List.Sublist.cons _ (List.Sublist.cons_cons _ (List.nil_sublist _)))) _), (fun f hf => List.mem_append_left _ (List.mem_append_left _ (hf))), ?_⟩
          refine LO_s rfl rfl rfl (S_v rfl rfl (V_load1 0 rfl rfl rfl Try.underlying28 rfl (by rfl)) ⟨(Pk.app (Pk.of_sub (List.Sublist.cons _ (List.Sublist.cons_cons _ (List.nil_sublist _)))) _), (fun f hf => List.mem_append_left _ (List.mem_append_left _ (hf))), ?_⟩)
          refine LO_v rfl rfl rfl rfl (V_fieldAddr rfl rfl Try.underlying30 rfl sz26q rfl) ?_
          refine LO_s rfl rfl rfl (S_call rfl rfl rfl tx45q (fun w1 hw => (cloneG_w s3 gl w1 (hw.fa 2 rfl) hBg).mono ?_))
          rintro e w' ⟨q3, rfl, hfr, hq3⟩
          refine ⟨_, _, _, rfl, hw.addOwn hfr hq3, rfl, (Pk.app (Pk.app (Pk.of_sub (List.Sublist.cons _ (List.Sublist.cons_cons _ (List.nil_sublist _)))) _) _), (fun f hf => List.mem_append_left _ (List.mem_append_left _ (hf))), ?_⟩
          refine LO_s rfl rfl rfl (S_store 0 (l' := svC t v sn s1 s2 (.slice s.1 es.length s.2) (.slice s3.1 gl.length s3.2)) rfl rfl rfl rfl rfl rfl (szd sz26q (by kernel_rfl)) (all_one (by kernel_rfl)) (Nat.le_of_ble_eq_true (by kernel_rfl)) (by kernel_rfl) ⟨(Pk.app (Pk.app (Pk.of_sub (List.Sublist.cons _ (List.Sublist.cons_cons _ (List.nil_sublist _)))) _) _), (fun f hf => List.mem_append_left _ (List.mem_append_left _ (hf))), ?_⟩)
          refine LO_v rfl rfl rfl rfl (V_fieldAddr rfl rfl Try.underlying30 rfl sz27q rfl) ?_
          refine LO_s rfl rfl rfl (S_store1 0 (l' := svC t v sn s1 s2 (ownV q1 es.length) (.slice s3.1 gl.length s3.2)) rfl rfl rfl rfl rfl rfl sz27q (Nat.le_of_ble_eq_true (by kernel_rfl)) (by kernel_rfl) ⟨(Pk.app (Pk.app (Pk.of_sub (List.Sublist.cons _ (List.Sublist.cons_cons _ (List.nil_sublist _)))) _) _), (fun f hf => List.mem_append_left _ (List.mem_append_left _ (hf))), ?_⟩)
          refine LO_v rfl rfl rfl rfl (V_fieldAddr rfl rfl Try.underlying30 rfl sz28q rfl) ?_
          refine LO_s rfl rfl rfl (S_store1 0 (l' := svC t v sn s1 s2 (ownV q1 es.length) (ownV q3 gl.length)) rfl rfl rfl rfl rfl rfl sz28q (Nat.le_of_ble_eq_true (by kernel_rfl)) (by kernel_rfl) ⟨(Pk.app (Pk.app (Pk.of_sub (List.Sublist.cons _ (List.Sublist.cons_cons _ (List.nil_sublist _)))) _) _), (fun f hf => List.mem_append_left _ (List.mem_append_left _ (hf))), ?_⟩)
          refine LO_nil ?_
          change J _ _ _ _
          refine J_seq ?_
          refine J_region ?_
          refine L_v rfl rfl rfl (V_loadT 0 (vs := svC t v sn s1 s2 (ownV q1 es.length) (ownV q3 gl.length)) rfl rfl rfl Try.underlying30 rfl sz30q (by kernel_rfl) (by kernel_rfl)) ?_
          refine L_storeW 1 rfl rfl rfl rfl rfl rfl (szd sz30q (by kernel_rfl)) (all_one (by kernel_rfl)) (by kernel_rfl) ?_
          refine L_nil ?_
          change J _ _ _ _
          refine J_ret ?_
          change Kret _ _ _ Exit.ret _
          refine ret1 rfl rfl (RV_c 1 rfl rfl Try.underlying30 rfl (szd sz30q (by kernel_rfl))) ?_
          exact fun w' h => ⟨s1, s2, q1, q3, gs, rfl, hgs, h.fr, hq1, hq3.own, NewL.of h rfl (List.Sublist.cons _ (List.Sublist.cons _ (List.Sublist.refl _))) (fun f hf => by
            rcases List.mem_cons.1 hf with rfl | hf
            · exact List.mem_append_left _ (List.mem_append_right _ (List.mem_singleton.2 rfl))
            · exact List.mem_append_right _ hf) (fun f hf => by
            rcases List.mem_cons.1 hf with rfl | hf
            · exact n1
            · obtain rfl := List.mem_singleton.1 hf
              exact n2)⟩
        ·
          refine LO_s rfl rfl rfl (S_v rfl rfl (V_load1 0 rfl rfl rfl Try.underlying28 rfl (by rfl)) ⟨(Pk.of_sub (List.Sublist.cons _ (List.Sublist.cons_cons _ (List.nil_sublist _)))), (fun f hf => List.mem_append_left _ (hf)), ?_⟩)
          refine LO_v rfl rfl rfl rfl (V_fieldAddr rfl rfl Try.underlying30 rfl sz26q rfl) ?_
          refine LO_s rfl rfl rfl (S_call rfl rfl rfl tx44q (fun w1 hw => (ownEntries_w es s w1 (hw.fa 1 rfl) hE hBe).mono ?_))
          rintro e w' ⟨q1, gs, rfl, hgs, hfr, hq1, hn2⟩
          have n2 : ∀ k, (allF (gs.map (enT 3))).fp k → w.heap.size ≤ k := fun k hk => Nat.le_trans hw.fr.size ((hn2.fa _ (List.mem_singleton.2 rfl)).new k hk)
          refine ⟨_, _, _, rfl, hw.addL hfr hn2, rfl, (Pk.app (Pk.of_sub (List.Sublist.cons _ (List.Sublist.cons_cons _ (List.nil_sublist _)))) _), (fun f hf => List.mem_append_left _ (List.mem_append_left _ (hf))), ?_⟩
          refine LO_s rfl rfl rfl (S_call rfl rfl rfl tx45q (fun w1 hw => (cloneG_w s3 gl w1 (hw.fa 2 rfl) hBg).mono ?_))
          rintro e w' ⟨q3, rfl, hfr, hq3⟩
          refine ⟨_, _, _, rfl, hw.addOwn hfr hq3, rfl, (Pk.app (Pk.app (Pk.of_sub (List.Sublist.cons _ (List.Sublist.cons_cons _ (List.nil_sublist _)))) _) _), (fun f hf => List.mem_append_left _ (List.mem_append_left _ (hf))), ?_⟩
          refine LO_s rfl rfl rfl (S_store 0 (l' := svC t v sn s1 s2 (.slice s.1 es.length s.2) (.slice s3.1 gl.length s3.2)) rfl rfl rfl rfl rfl rfl (szd sz26q (by kernel_rfl)) (all_one (by kernel_rfl)) (Nat.le_of_ble_eq_true (by kernel_rfl)) (by kernel_rfl) ⟨(Pk.app (Pk.app (Pk.of_sub (List.Sublist.cons _ (List.Sublist.cons_cons _ (List.nil_sublist _)))) _) _), (fun f hf => List.mem_append_left _ (List.mem_append_left _ (hf))), ?_⟩)
          refine LO_v rfl rfl rfl rfl (V_fieldAddr rfl rfl Try.underlying30 rfl sz27q rfl) ?_
          refine LO_s rfl rfl rfl (S_store1 0 (l' := svC t v sn s1 s2 (ownV q1 es.length) (.slice s3.1 gl.length s3.2)) rfl rfl rfl rfl rfl rfl sz27q (Nat.le_of_ble_eq_true (by kernel_rfl)) (by kernel_rfl) ⟨(Pk.app (Pk.app (Pk.of_sub (List.Sublist.cons _ (List.Sublist.cons_cons _ (List.nil_sublist _)))) _) _), (fun f hf => List.mem_append_left _ (List.mem_append_left _ (hf))), ?_⟩)
          refine LO_v rfl rfl rfl rfl (V_fieldAddr rfl rfl Try.underlying30 rfl sz28q rfl) ?_
          refine LO_s rfl rfl rfl (S_store1 0 (l' := svC t v sn s1 s2 (ownV q1 es.length) (ownV q3 gl.length)) rfl rfl rfl rfl rfl rfl sz28q (Nat.le_of_ble_eq_true (by kernel_rfl)) (by kernel_rfl) ⟨(Pk.app (Pk.app (Pk.of_sub (List.Sublist.cons _ (List.Sublist.cons_cons _ (List.nil_sublist _)))) _) _), (fun f hf => List.mem_append_left _ (List.mem_append_left _ (hf))), ?_⟩)
          refine LO_nil ?_
          change J _ _ _ _
          refine J_seq ?_
          refine J_region ?_
          refine L_v rfl rfl rfl (V_loadT 0 (vs := svC t v sn s1 s2 (ownV q1 es.length) (ownV q3 gl.length)) rfl rfl rfl Try.underlying30 rfl sz30q (by kernel_rfl) (by kernel_rfl)) ?_
          refine L_storeW 1 rfl rfl rfl rfl rfl rfl (szd sz30q (by kernel_rfl)) (all_one (by kernel_rfl)) (by kernel_rfl) ?_
          refine L_nil ?_
          change J _ _ _ _
          refine J_ret ?_
          change Kret _ _ _ Exit.ret _
          refine ret1 rfl rfl (RV_c 1 rfl rfl Try.underlying30 rfl (szd sz30q (by kernel_rfl))) ?_
          exact fun w' h => ⟨s1, s2, q1, q3, gs, rfl, hgs, h.fr, hq1, hq3.own, NewL.of h rfl (List.Sublist.cons _ (List.Sublist.cons _ (List.Sublist.refl _))) (fun f hf => by
            rcases List.mem_cons.1 hf with rfl | hf
            · exact List.mem_append_left _ (List.mem_append_right _ (List.mem_singleton.2 rfl))
            · exact List.mem_append_right _ hf) (fun f hf => by
            rcases List.mem_cons.1 hf with rfl | hf
            · exact n1
            · obtain rfl := List.mem_singleton.1 hf
              exact n2)⟩
      ·
        refine LO_s rfl rfl rfl (S_v rfl rfl (V_load1 0 rfl rfl rfl Try.underlying28 rfl (by rfl)) ⟨(Pk.of_sub (List.Sublist.cons _ (List.Sublist.cons_cons _ (List.nil_sublist _)))), (fun f hf => hf), ?_⟩)
        refine LO_s rfl rfl rfl (S_call rfl rfl rfl tx43q (fun w1 hw => (ownSnapP_w sn a b w1 (hw.fa 0 rfl) hB).mono ?_))
        rintro e w' ⟨s1, s2, rfl, hfr, hn1⟩
        have n1 : ∀ k, (clT 3 sn.2.2.1 s1 s2).fp k → w.heap.size ≤ k := fun k hk => Nat.le_trans hw.fr.size (hn1.new k hk)
        refine ⟨_, _, _, rfl, hw.newN hfr hn1, rfl, (Pk.of_sub (List.Sublist.cons _ (List.Sublist.cons_cons _ (List.nil_sublist _)))), (fun f hf => List.mem_append_left _ (hf)), ?_⟩
        refine LO_v rfl rfl rfl rfl (V_fieldAddr rfl rfl Try.underlying30 rfl sz26q rfl) ?_
        refine LO_s rfl rfl rfl (S_call rfl rfl rfl tx44q (fun w1 hw => (ownEntries_w es s w1 (hw.fa 1 rfl) hE hBe).mono ?_))
        rintro e w' ⟨q1, gs, rfl, hgs, hfr, hq1, hn2⟩
        have n2 : ∀ k, (allF (gs.map (enT 3))).fp k → w.heap.size ≤ k := fun k hk => Nat.le_trans hw.fr.size ((hn2.fa _ (List.mem_singleton.2 rfl)).new k hk)
        refine ⟨_, _, _, rfl, hw.addL hfr hn2, rfl, (Pk.app (Pk.of_sub (List.Sublist.cons _ (List.Sublist.cons_cons _ (List.nil_sublist _)))) _), (fun f hf => List.mem_append_left _ (List.mem_append_left _ (hf))), ?_⟩
        refine LO_s rfl rfl rfl (S_call rfl rfl rfl tx45q (fun w1 hw => (cloneG_w s3 gl w1 (hw.fa 2 rfl) hBg).mono ?_))
        rintro e w' ⟨q3, rfl, hfr, hq3⟩
        refine ⟨_, _, _, rfl, hw.addOwn hfr hq3, rfl, (Pk.app (Pk.app (Pk.of_sub (List.Sublist.cons _ (List.Sublist.cons_cons _ (List.nil_sublist _)))) _) _), (fun f hf => List.mem_append_left _ (List.mem_append_left _ (hf))), ?_⟩
        refine LO_s rfl rfl rfl (S_store 0 (l' := svC t v sn s1 s2 (.slice s.1 es.length s.2) (.slice s3.1 gl.length s3.2)) rfl rfl rfl rfl rfl rfl (szd sz26q (by kernel_rfl)) (all_one (by kernel_rfl)) (Nat.le_of_ble_eq_true (by kernel_rfl)) (by kernel_rfl) ⟨(Pk.app (Pk.app (Pk.of_sub (List.Sublist.cons _ (List.Sublist.cons_cons _ (List.nil_sublist _)))) _) _), (fun f hf => List.mem_append_left _ (List.mem_append_left _ (hf))), ?_⟩)
        refine LO_v rfl rfl rfl rfl (V_fieldAddr rfl rfl Try.underlying30 rfl sz27q rfl) ?_
        refine LO_s rfl rfl rfl (S_store1 0 (l' := svC t v sn s1 s2 (ownV q1 es.length) (.slice s3.1 gl.length s3.2)) rfl rfl rfl rfl rfl rfl sz27q (Nat.le_of_ble_eq_true (by kernel_rfl)) (by kernel_rfl) ⟨(Pk.app (Pk.app (Pk.of_sub (List.Sublist.cons _ (List.Sublist.cons_cons _ (List.nil_sublist _)))) _) _), (fun f hf => List.mem_append_left _ (List.mem_append_left _ (hf))), ?_⟩)
        refine LO_v rfl rfl rfl rfl (V_fieldAddr rfl rfl Try.underlying30 rfl sz28q rfl) ?_
        refine LO_s rfl rfl rfl (S_store1 0 (l' := svC t v sn s1 s2 (ownV q1 es.length) (ownV q3 gl.length)) rfl rfl rfl rfl rfl rfl sz28q (Nat.le_of_ble_eq_true (by kernel_rfl)) (by kernel_rfl) ⟨(Pk.app (Pk.app (Pk.of_sub (List.Sublist.cons _ (List.Sublist.cons_cons _ (List.nil_sublist _)))) _) _), (fun f hf => List.mem_append_left _ (List.mem_append_left _ (hf))), ?_⟩)
        refine LO_nil ?_
        change J _ _ _ _
        refine J_seq ?_
        refine J_region ?_
        refine L_v rfl rfl rfl (V_loadT 0 (vs := svC t v sn s1 s2 (ownV q1 es.length) (ownV q3 gl.length)) rfl rfl rfl Try.underlying30 rfl sz30q (by kernel_rfl) (by kernel_rfl)) ?_
        refine L_storeW 1 rfl rfl rfl rfl rfl rfl (szd sz30q (by kernel_rfl)) (all_one (by kernel_rfl)) (by kernel_rfl) ?_
        refine L_nil ?_
        change J _ _ _ _
        refine J_ret ?_
        change Kret _ _ _ Exit.ret _
        refine ret1 rfl rfl (RV_c 1 rfl rfl Try.underlying30 rfl (szd sz30q (by kernel_rfl))) ?_
        exact fun w' h => ⟨s1, s2, q1, q3, gs, rfl, hgs, h.fr, hq1, hq3.own, NewL.of h rfl (List.Sublist.cons _ (List.Sublist.cons _ (List.Sublist.refl _))) (fun f hf => by
          rcases List.mem_cons.1 hf with rfl | hf
          · exact List.mem_append_left _ (List.mem_append_right _ (List.mem_singleton.2 rfl))
          · exact List.mem_append_right _ hf) (fun f hf => by
          rcases List.mem_cons.1 hf with rfl | hf
          · exact n1
          · obtain rfl := List.mem_singleton.1 hf
            exact n2)⟩
    ·
      refine LO_s rfl rfl rfl (S_v rfl rfl (V_load1 0 rfl rfl rfl Try.underlying28 rfl (by rfl)) ⟨(Pk.of_sub (List.Sublist.cons _ (List.Sublist.cons_cons _ (List.nil_sublist _)))), (fun f hf => hf), ?_⟩)
      refine LO_both ?_ ?_
      ·
        refine LO_s rfl rfl rfl (S_call rfl rfl rfl tx43q (fun w1 hw => (ownSnapP_w sn a b w1 (hw.fa 0 rfl) hB).mono ?_))
        rintro e w' ⟨s1, s2, rfl, hfr, hn1⟩
        have n1 : ∀ k, (clT 3 sn.2.2.1 s1 s2).fp k → w.heap.size ≤ k := fun k hk => Nat.le_trans hw.fr.size (hn1.new k hk)
        refine ⟨_, _, _, rfl, hw.newN hfr hn1, rfl, (Pk.of_sub (List.Sublist.cons _ (List.Sublist.cons_cons _ (List.nil_sublist _)))), (fun f hf => List.mem_append_left _ (hf)), ?_⟩
        refine LO_s rfl rfl rfl (S_v rfl rfl (V_load1 0 rfl rfl rfl Try.underlying27 rfl (by rfl)) ⟨(Pk.of_sub (List.Sublist.cons _ (List.Sublist.cons_cons _ (List.nil_sublist _)))), (fun f hf => List.mem_append_left _ (hf)), ?_⟩)
        refine LO_v rfl rfl rfl rfl (V_fieldAddr rfl rfl Try.underlying30 rfl sz26q rfl) ?_
        refine LO_s rfl rfl rfl (S_call rfl rfl rfl tx44q (fun w1 hw => (ownEntries_w es s w1 (hw.fa 1 rfl) hE hBe).mono ?_))
        rintro e w' ⟨q1, gs, rfl, hgs, hfr, hq1, hn2⟩
        have n2 : ∀ k, (allF (gs.map (enT 3))).fp k → w.heap.size ≤ k := fun k hk => Nat.le_trans hw.fr.size ((hn2.fa _ (List.mem_singleton.2 rfl)).new k hk)
        refine ⟨_, _, _, rfl, hw.addL hfr hn2, rfl, (Pk.app (Pk.of_sub (List.Sublist.cons _ (List.Sublist.cons_cons _ (List.nil_sublist _)))) _), (fun f hf => List.mem_append_left _ (List.mem_append_left _ (hf))), ?_⟩
        refine LO_s rfl rfl rfl (S_call rfl rfl rfl tx45q (fun w1 hw => (cloneG_w s3 gl w1 (hw.fa 2 rfl) hBg).mono ?_))
        rintro e w' ⟨q3, rfl, hfr, hq3⟩
        refine ⟨_, _, _, rfl, hw.addOwn hfr hq3, rfl, (Pk.app (Pk.app (Pk.of_sub (List.Sublist.cons _ (List.Sublist.cons_cons _ (List.nil_sublist _)))) _) _), (fun f hf => List.mem_append_left _ (List.mem_append_left _ (hf))), ?_⟩
        refine LO_s rfl rfl rfl (S_store 0 (l' := svC t v sn s1 s2 (.slice s.1 es.length s.2) (.slice s3.1 gl.length s3.2)) rfl rfl rfl rfl rfl rfl (szd sz26q (by kernel_rfl)) (all_one (by kernel_rfl)) (Nat.le_of_ble_eq_true (by kernel_rfl)) (by kernel_rfl) ⟨(Pk.app (Pk.app (Pk.of_sub (List.Sublist.cons _ (List.Sublist.cons_cons _ (List.nil_sublist _)))) _) _), (fun f hf => List.mem_append_left _ (List.mem_append_left _ (hf))), ?_⟩)
        refine LO_v rfl rfl rfl rfl (V_fieldAddr rfl rfl Try.underlying30 rfl sz27q rfl) ?_
        refine LO_s rfl rfl rfl (S_store1 0 (l' := svC t v sn s1 s2 (ownV q1 es.length) (.slice s3.1 gl.length s3.2)) rfl rfl rfl rfl rfl rfl sz27q (Nat.le_of_ble_eq_true (by kernel_rfl)) (by kernel_rfl) ⟨(Pk.app (Pk.app (Pk.of_sub (List.Sublist.cons _ (List.Sublist.cons_cons _ (List.nil_sublist _)))) _) _), (fun f hf => List.mem_append_left _ (List.mem_append_left _ (hf))), ?_⟩)
        refine LO_v rfl rfl rfl rfl (V_fieldAddr rfl rfl Try.underlying30 rfl sz28q rfl) ?_
        refine LO_s rfl rfl rfl (S_store1 0 (l' := svC t v sn s1 s2 (ownV q1 es.length) (ownV q3 gl.length)) rfl rfl rfl rfl rfl rfl sz28q (Nat.le_of_ble_eq_true (by kernel_rfl)) (by kernel_rfl) ⟨(Pk.app (Pk.app (Pk.of_sub (List.Sublist.cons _ (List.Sublist.cons_cons _ (List.nil_sublist _)))) _) _), (fun f hf => List.mem_append_left _ (List.mem_append_left _ (hf))), ?_⟩)
        refine LO_nil ?_
        change J _ _ _ _
        refine J_seq ?_
        refine J_region ?_
        refine L_v rfl rfl rfl (V_loadT 0 (vs := svC t v sn s1 s2 (ownV q1 es.length) (ownV q3 gl.length)) rfl rfl rfl Try.underlying30 rfl sz30q (by kernel_rfl) (by kernel_rfl)) ?_
        refine L_storeW 1 rfl rfl rfl rfl rfl rfl (szd sz30q (by kernel_rfl)) (all_one (by kernel_rfl)) (by kernel_rfl) ?_
        refine L_nil ?_
        change J _ _ _ _
        refine J_ret ?_
        change Kret _ _ _ Exit.ret _
        refine ret1 rfl rfl (RV_c 1 rfl rfl Try.underlying30 rfl (szd sz30q (by kernel_rfl))) ?_
        exact fun w' h => ⟨s1, s2, q1, q3, gs, rfl, hgs, h.fr, hq1, hq3.own, NewL.of h rfl (List.Sublist.cons _ (List.Sublist.cons _ (List.Sublist.refl _))) (fun f hf => by
          rcases List.mem_cons.1 hf with rfl | hf
          · exact List.mem_append_left _ (List.mem_append_right _ (List.mem_singleton.2 rfl))
          · exact List.mem_append_right _ hf) (fun f hf => by
          rcases List.mem_cons.1 hf with rfl | hf
          · exact n1
          · obtain rfl := List.mem_singleton.1 hf
            exact n2)⟩
      ·
        refine LO_s rfl rfl rfl (S_v rfl rfl (V_load1 0 rfl rfl rfl Try.underlying27 rfl (by rfl)) ⟨(Pk.of_sub (List.Sublist.cons _ (List.Sublist.cons_cons _ (List.nil_sublist _)))), (fun f hf => hf), ?_⟩)
        refine LO_s rfl rfl rfl (S_call rfl rfl rfl tx43q (fun w1 hw => (ownSnapP_w sn a b w1 (hw.fa 0 rfl) hB).mono ?_))
        rintro e w' ⟨s1, s2, rfl, hfr, hn1⟩
        have n1 : ∀ k, (clT 3 sn.2.2.1 s1 s2).fp k → w.heap.size ≤ k := fun k hk => Nat.le_trans hw.fr.size (hn1.new k hk)
        refine ⟨_, _, _, rfl, hw.newN hfr hn1, rfl, (Pk.of_sub (List.Sublist.cons _ (List.Sublist.cons_cons _ (List.nil_sublist _)))), (fun f hf => List.mem_append_left _ (hf)), ?_⟩
        refine LO_v rfl rfl rfl rfl (V_fieldAddr rfl rfl Try.underlying30 rfl sz26q rfl) ?_
        refine LO_s rfl rfl rfl (S_call rfl rfl rfl tx44q (fun w1 hw => (ownEntries_w es s w1 (hw.fa 1 rfl) hE hBe).mono ?_))
        rintro e w' ⟨q1, gs, rfl, hgs, hfr, hq1, hn2⟩
        have n2 : ∀ k, (allF (gs.map (enT 3))).fp k → w.heap.size ≤ k := fun k hk => Nat.le_trans hw.fr.size ((hn2.fa _ (List.mem_singleton.2 rfl)).new k hk)
        refine ⟨_, _, _, rfl, hw.addL hfr hn2, rfl, (Pk.app (Pk.of_sub (List.Sublist.cons _ (List.Sublist.cons_cons _ (List.nil_sublist _)))) _), (fun f hf => List.mem_append_left _ (List.mem_append_left _ (hf))), ?_⟩
        refine LO_s rfl rfl rfl (S_call rfl rfl rfl tx45q (fun w1 hw => (cloneG_w s3 gl w1 (hw.fa 2 rfl) hBg).mono ?_))
        rintro e w' ⟨q3, rfl, hfr, hq3⟩
        refine ⟨_, _, _, rfl, hw.addOwn hfr hq3, rfl, (Pk.app (Pk.app (Pk.of_sub (List.Sublist.cons _ (List.Sublist.cons_cons _ (List.nil_sublist _)))) _) _), (fun f hf => List.mem_append_left _ (List.mem_append_left _ (hf))), ?_⟩
        refine LO_s rfl rfl rfl (S_store 0 (l' := svC t v sn s1 s2 (.slice s.1 es.length s.2) (.slice s3.1 gl.length s3.2)) rfl rfl rfl rfl rfl rfl (szd sz26q (by kernel_rfl)) (all_one (by kernel_rfl)) (Nat.le_of_ble_eq_true (by kernel_rfl)) (by kernel_rfl) ⟨(Pk.app (Pk.app (Pk.of_sub (List.Sublist.cons _ (List.Sublist.cons_cons _ (List.nil_sublist _)))) _) _), (fun f hf => List.mem_append_left _ (List.mem_append_left _ (hf))), ?_⟩)
        refine LO_v rfl rfl rfl rfl (V_fieldAddr rfl rfl Try.underlying30 rfl sz27q rfl) ?_
        refine LO_s rfl rfl rfl (S_store1 0 (l' := svC t v sn s1 s2 (ownV q1 es.length) (.slice s3.1 gl.length s3.2)) rfl rfl rfl rfl rfl rfl sz27q (Nat.le_of_ble_eq_true (by kernel_rfl)) (by kernel_rfl) ⟨(Pk.app (Pk.app (Pk.of_sub (List.Sublist.cons _ (List.Sublist.cons_cons _ (List.nil_sublist _)))) _) _), (fun f hf => List.mem_append_left _ (List.mem_append_left _ (hf))), ?_⟩)
        refine LO_v rfl rfl rfl rfl (V_fieldAddr rfl rfl Try.underlying30 rfl sz28q rfl) ?_
        refine LO_s rfl rfl rfl (S_store1 0 (l' := svC t v sn s1 s2 (ownV q1 es.length) (ownV q3 gl.length)) rfl rfl rfl rfl rfl rfl sz28q (Nat.le_of_ble_eq_true (by kernel_rfl)) (by kernel_rfl) ⟨(Pk.app (Pk.app (Pk.of_sub (List.Sublist.cons _ (List.Sublist.cons_cons _ (List.nil_sublist _)))) _) _), (fun f hf => List.mem_append_left _ (List.mem_append_left _ (hf))), ?_⟩)
        refine LO_nil ?_
        change J _ _ _ _
        refine J_seq ?_
        refine J_region ?_
        refine L_v rfl rfl rfl (V_loadT 0 (vs := svC t v sn s1 s2 (ownV q1 es.length) (ownV q3 gl.length)) rfl rfl rfl Try.underlying30 rfl sz30q (by kernel_rfl) (by kernel_rfl)) ?_
        refine L_storeW 1 rfl rfl rfl rfl rfl rfl (szd sz30q (by kernel_rfl)) (all_one (by kernel_rfl)) (by kernel_rfl) ?_
        refine L_nil ?_
        change J _ _ _ _
        refine J_ret ?_
        change Kret _ _ _ Exit.ret _
        refine ret1 rfl rfl (RV_c 1 rfl rfl Try.underlying30 rfl (szd sz30q (by kernel_rfl))) ?_
        exact fun w' h => ⟨s1, s2, q1, q3, gs, rfl, hgs, h.fr, hq1, hq3.own, NewL.of h rfl (List.Sublist.cons _ (List.Sublist.cons _ (List.Sublist.refl _))) (fun f hf => by
          rcases List.mem_cons.1 hf with rfl | hf
          · exact List.mem_append_left _ (List.mem_append_right _ (List.mem_singleton.2 rfl))
          · exact List.mem_append_right _ hf) (fun f hf => by
          rcases List.mem_cons.1 hf with rfl | hf
          · exact n1
          · obtain rfl := List.mem_singleton.1 hf
            exact n2)⟩
  ·
    refine LO_s rfl rfl rfl (S_v rfl rfl (V_load1 0 rfl rfl rfl Try.underlying27 rfl (by rfl)) ⟨(Pk.of_sub (List.Sublist.cons _ (List.Sublist.cons_cons _ (List.nil_sublist _)))), (fun f hf => hf), ?_⟩)
    refine LO_both ?_ ?_
    ·
      refine LO_s rfl rfl rfl (S_v rfl rfl (V_loadT 0 (vs := snX sn a b) rfl rfl rfl Try.underlying26 rfl sz26q (by kernel_rfl) (by kernel_rfl)) ⟨(Pk.of_sub (List.Sublist.cons _ (List.Sublist.cons_cons _ (List.nil_sublist _)))), (fun f hf => hf), ?_⟩)
      refine LO_both ?_ ?_
      ·
        refine LO_s rfl rfl rfl (S_call rfl rfl rfl tx43q (fun w1 hw => (ownSnapP_w sn a b w1 (hw.fa 0 rfl) hB).mono ?_))
        rintro e w' ⟨s1, s2, rfl, hfr, hn1⟩
        have n1 : ∀ k, (clT 3 sn.2.2.1 s1 s2).fp k → w.heap.size ≤ k := fun k hk => Nat.le_trans hw.fr.size (hn1.new k hk)
        refine ⟨_, _, _, rfl, hw.newN hfr hn1, rfl, (Pk.of_sub (List.Sublist.cons _ (List.Sublist.cons_cons _ (List.nil_sublist _)))), (fun f hf => List.mem_append_left _ (hf)), ?_⟩
        refine LO_both ?_ ?_
        ·
          refine LO_s rfl rfl rfl (S_call rfl rfl rfl tx44q (fun w1 hw => (ownEntries_w es s w1 (hw.fa 1 rfl) hE hBe).mono ?_))
          rintro e w' ⟨q1, gs, rfl, hgs, hfr, hq1, hn2⟩
          have n2 : ∀ k, (allF (gs.map (enT 3))).fp k → w.heap.size ≤ k := fun k hk => Nat.le_trans hw.fr.size ((hn2.fa _ (List.mem_singleton.2 rfl)).new k hk)
          refine ⟨_, _, _, rfl, hw.addL hfr hn2, rfl, (Pk.app (Pk.of_sub (List.Sublist.cons _ (List.Sublist.cons_cons _ (List.nil_sublist _)))) _), (fun f hf => List.mem_append_left _ (List.mem_append_left _ (hf))), ?_⟩
          refine LO_s rfl rfl rfl (S_v rfl rfl (V_load1 0 rfl rfl rfl Try.underlying28 rfl (by rfl)) ⟨(Pk.app (Pk.of_sub (List.Sublist.cons _ (List.Sublist.cons_cons _ (List.nil_sublist _)))) _), (fun f hf => List.mem_append_left _ (List.mem_append_left _ (hf))), ?_⟩)
          refine LO_v rfl rfl rfl rfl (V_fieldAddr rfl rfl Try.underlying30 rfl sz26q rfl) ?_
          refine LO_s rfl rfl rfl (S_call rfl rfl rfl tx45q (fun w1 hw => (cloneG_w s3 gl w1 (hw.fa 2 rfl) hBg).mono ?_))
          rintro e w' ⟨q3, rfl, hfr, hq3⟩
          refine ⟨_, _, _, rfl, hw.addOwn hfr hq3, rfl, (Pk.app (Pk.app (Pk.of_sub (List.Sublist.cons _ (List.Sublist.cons_cons _ (List.nil_sublist _)))) _) _), (fun f hf => List.mem_append_left _ (List.mem_append_left _ (hf))), ?_⟩
          refine LO_s rfl rfl rfl (S_store 0 (l' := svC t v sn s1 s2 (.slice s.1 es.length s.2) (.slice s3.1 gl.length s3.2)) rfl rfl rfl rfl rfl rfl (szd sz26q (by kernel_rfl)) (all_one (by kernel_rfl)) (Nat.le_of_ble_eq_true (by kernel_rfl)) (by kernel_rfl) ⟨(Pk.app (Pk.app (Pk.of_sub (List.Sublist.cons _ (List.Sublist.cons_cons _ (List.nil_sublist _)))) _) _), (fun f hf => List.mem_append_left _ (List.mem_append_left _ (hf))), ?_⟩)
          refine LO_v rfl rfl rfl rfl (V_fieldAddr rfl rfl Try.underlying30 rfl sz27q rfl) ?_
          refine LO_s rfl rfl rfl (S_store1 0 (l' := svC t v sn s1 s2 (ownV q1 es.length) (.slice s3.1 gl.length s3.2)) rfl rfl rfl rfl rfl rfl sz27q (Nat.le_of_ble_eq_true (by kernel_rfl)) (by kernel_rfl) ⟨(Pk.app (Pk.app (Pk.of_sub (List.Sublist.cons _ (List.Sublist.cons_cons _ (List.nil_sublist _)))) _) _), (fun f hf => List.mem_append_left _ (List.mem_append_left _ (hf))), ?_⟩)
          refine LO_v rfl rfl rfl rfl (V_fieldAddr rfl rfl Try.underlying30 rfl sz28q rfl) ?_
          refine LO_s rfl rfl rfl (S_store1 0 (l' := svC t v sn s1 s2 (ownV q1 es.length) (ownV q3 gl.length)) rfl rfl rfl rfl rfl rfl sz28q (Nat.le_of_ble_eq_true (by kernel_rfl)) (by kernel_rfl) ⟨(Pk.app (Pk.app (Pk.of_sub (List.Sublist.cons _ (List.Sublist.cons_cons _ (List.nil_sublist _)))) _) _), (fun f hf => List.mem_append_left _ (List.mem_append_left _ (hf))), ?_⟩)
          refine LO_nil ?_
          change J _ _ _ _
          refine J_seq ?_
          refine J_region ?_
          refine L_v rfl rfl rfl (V_loadT 0 (vs := svC t v sn s1 s2 (ownV q1 es.length) (ownV q3 gl.length)) rfl rfl rfl Try.underlying30 rfl sz30q (by kernel_rfl) (by kernel_rfl)) ?_
          refine L_storeW 1 rfl rfl rfl rfl rfl rfl (szd sz30q (by kernel_rfl)) (all_one (by kernel_rfl)) (by kernel_rfl) ?_
          refine L_nil ?_
          change J _ _ _ _
          refine J_ret ?_
          change Kret _ _ _ Exit.ret _
          refine ret1 rfl rfl (RV_c 1 rfl rfl Try.underlying30 rfl (szd sz30q (by kernel_rfl))) ?_
          exact fun w' h => ⟨s1, s2, q1, q3, gs, rfl, hgs, h.fr, hq1, hq3.own, NewL.of h rfl (List.Sublist.cons _ (List.Sublist.cons _ (List.Sublist.refl _))) (fun f hf => by
            rcases List.mem_cons.1 hf with rfl | hf
            · exact List.mem_append_left _ (List.mem_append_right _ (List.mem_singleton.2 rfl))
            · exact List.mem_append_right _ hf) (fun f hf => by
            rcases List.mem_cons.1 hf with rfl | hf
            · exact n1
            · obtain rfl := List.mem_singleton.1 hf
              exact n2)⟩
        ·
          refine LO_s rfl rfl rfl (S_v rfl rfl (V_load1 0 rfl rfl rfl Try.underlying28 rfl (by rfl)) ⟨(Pk.of_sub (List.Sublist.cons _ (List.Sublist.cons_cons _ (List.nil_sublist _)))), (fun f hf => List.mem_append_left _ (hf)), ?_⟩)
          refine LO_v rfl rfl rfl rfl (V_fieldAddr rfl rfl Try.underlying30 rfl sz26q rfl) ?_
          refine LO_s rfl rfl rfl (S_call rfl rfl rfl tx44q (fun w1 hw => (ownEntries_w es s w1 (hw.fa 1 rfl) hE hBe).mono ?_))
          rintro e w' ⟨q1, gs, rfl, hgs, hfr, hq1, hn2⟩
          have n2 : ∀ k, (allF (gs.map (enT 3))).fp k → w.heap.size ≤ k := fun k hk => Nat.le_trans hw.fr.size ((hn2.fa _ (List.mem_singleton.2 rfl)).new k hk)
          refine ⟨_, _, _, rfl, hw.addL hfr hn2, rfl, (Pk.app (Pk.of_sub (List.Sublist.cons _ (List.Sublist.cons_cons _ (List.nil_sublist _)))) _), (fun f hf => List.mem_append_left _ (List.mem_append_left _ (hf))), ?_⟩
          refine LO_s rfl rfl rfl (S_call rfl rfl rfl tx45q (fun w1 hw => (cloneG_w s3 gl w1 (hw.fa 2 rfl) hBg).mono ?_))
          rintro e w' ⟨q3, rfl, hfr, hq3⟩
          refine ⟨_, _, _, rfl, hw.addOwn hfr hq3, rfl, (Pk.app (Pk.app (Pk.of_sub (List.Sublist.cons _ (List.Sublist.cons_cons _ (List.nil_sublist _)))) _) _), (fun f hf => List.mem_append_left _ (List.mem_append_left _ (hf))), ?_⟩
          refine LO_s rfl rfl rfl (S_store 0 (l' := svC t v sn s1 s2 (.slice s.1 es.length s.2) (.slice s3.1 gl.length s3.2)) rfl rfl rfl rfl rfl rfl (szd sz26q (by kernel_rfl)) (all_one (by kernel_rfl)) (Nat.le_of_ble_eq_true (by kernel_rfl)) (by kernel_rfl) ⟨(Pk.app (Pk.app (Pk.of_sub (List.Sublist.cons _ (List.Sublist.cons_cons _ (List.nil_sublist _)))) _) _), (fun f hf => List.mem_append_left _ (List.mem_append_left _ (hf))), ?_⟩)
          refine LO_v rfl rfl rfl rfl (V_fieldAddr rfl rfl Try.underlying30 rfl sz27q rfl) ?_
          refine LO_s rfl rfl rfl (S_store1 0 (l' := svC t v sn s1 s2 (ownV q1 es.length) (.slice s3.1 gl.length s3.2)) rfl rfl rfl rfl rfl rfl sz27q (Nat.le_of_ble_eq_true (by kernel_rfl)) (by kernel_rfl) ⟨(Pk.app (Pk.app (Pk.of_sub (List.Sublist.cons _ (List.Sublist.cons_cons _ (List.nil_sublist _)))) _) _), (fun f hf => List.mem_append_left _ (List.mem_append_left _ (hf))), ?_⟩)
          refine LO_v rfl rfl rfl rfl (V_fieldAddr rfl rfl Try.underlying30 rfl sz28q rfl) ?_
          refine LO_s rfl rfl rfl (S_store1 0 (l' := svC t v sn s1 s2 (ownV q1 es.length) (ownV q3 gl.length)) rfl rfl rfl rfl rfl rfl sz28q (Nat.le_of_ble_eq_true (by kernel_rfl)) (by kernel_rfl) ⟨(Pk.app (Pk.app (Pk.of_sub (List.Sublist.cons _ (List.Sublist.cons_cons _ (List.nil_sublist _)))) _) _), (fun f hf => List.mem_append_left _ (List.mem_append_left _ (hf))), ?_⟩)
          refine LO_nil ?_
          change J _ _ _ _
          refine J_seq ?_
          refine J_region ?_
          refine L_v rfl rfl rfl (V_loadT 0 (vs := svC t v sn s1 s2 (ownV q1 es.length) (ownV q3 gl.length)) rfl rfl rfl Try.underlying30 rfl sz30q (by kernel_rfl) (by kernel_rfl)) ?_
          refine L_storeW 1 rfl rfl rfl rfl rfl rfl (szd sz30q (by kernel_rfl)) (all_one (by kernel_rfl)) (by kernel_rfl) ?_
          refine L_nil ?_
          change J _ _ _ _
          refine J_ret ?_
          change Kret _ _ _ Exit.ret _
          refine ret1 rfl rfl (RV_c 1 rfl rfl Try.underlying30 rfl (szd sz30q (by kernel_rfl))) ?_
          exact fun w' h => ⟨s1, s2, q1, q3, gs, rfl, hgs, h.fr, hq1, hq3.own, NewL.of h rfl (List.Sublist.cons _ (List.Sublist.cons _ (List.Sublist.refl _))) (fun f hf => by
            rcases List.mem_cons.1 hf with rfl | hf
            · exact List.mem_append_left _ (List.mem_append_right _ (List.mem_singleton.2 rfl))
            · exact List.mem_append_right _ hf) (fun f hf => by
            rcases List.mem_cons.1 hf with rfl | hf
            · exact n1
            · obtain rfl := List.mem_singleton.1 hf
              exact n2)⟩
      ·
        refine LO_s rfl rfl rfl (S_v rfl rfl (V_load1 0 rfl rfl rfl Try.underlying28 rfl (by rfl)) ⟨(Pk.of_sub (List.Sublist.cons _ (List.Sublist.cons_cons _ (List.nil_sublist _)))), (fun f hf => hf), ?_⟩)
        refine LO_s rfl rfl rfl (S_call rfl rfl rfl tx43q (fun w1 hw => (ownSnapP_w sn a b w1 (hw.fa 0 rfl) hB).mono ?_))
        rintro e w' ⟨s1, s2, rfl, hfr, hn1⟩
        have n1 : ∀ k, (clT 3 sn.2.2.1 s1 s2).fp k → w.heap.size ≤ k := fun k hk => Nat.le_trans hw.fr.size (hn1.new k hk)
        refine ⟨_, _, _, rfl, hw.newN hfr hn1, rfl, (Pk.of_sub (List.Sublist.cons _ (List.Sublist.cons_cons _ (List.nil_sublist _)))), (fun f hf => List.mem_append_left _ (hf)), ?_⟩
        refine LO_v rfl rfl rfl rfl (V_fieldAddr rfl rfl Try.underlying30 rfl sz26q rfl) ?_
        refine LO_s rfl rfl rfl (S_call rfl rfl rfl tx44q (fun w1 hw => (ownEntries_w es s w1 (hw.fa 1 rfl) hE hBe).mono ?_))
        rintro e w' ⟨q1, gs, rfl, hgs, hfr, hq1, hn2⟩
        have n2 : ∀ k, (allF (gs.map (enT 3))).fp k → w.heap.size ≤ k := fun k hk => Nat.le_trans hw.fr.size ((hn2.fa _ (List.mem_singleton.2 rfl)).new k hk)
        refine ⟨_, _, _, rfl, hw.addL hfr hn2, rfl, (Pk.app (Pk.of_sub (List.Sublist.cons _ (List.Sublist.cons_cons _ (List.nil_sublist _)))) _), (fun f hf => List.mem_append_left _ (List.mem_append_left _ (hf))), ?_⟩
        refine LO_s rfl rfl rfl (S_call rfl rfl rfl tx45q (fun w1 hw => (cloneG_w s3 gl w1 (hw.fa 2 rfl) hBg).mono ?_))
        rintro e w' ⟨q3, rfl, hfr, hq3⟩
        refine ⟨_, _, _, rfl, hw.addOwn hfr hq3, rfl, (Pk.app (Pk.app (Pk.of_sub (List.Sublist.cons _ (List.Sublist.cons_cons _ (List.nil_sublist _)))) _) _), (fun f hf => List.mem_append_left _ (List.mem_append_left _ (hf))), ?_⟩
        refine LO_s rfl rfl rfl (S_store 0 (l' := svC t v sn s1 s2 (.slice s.1 es.length s.2) (.slice s3.1 gl.length s3.2)) rfl rfl rfl rfl rfl rfl (szd sz26q (by kernel_rfl)) (all_one (by kernel_rfl)) (Nat.le_of_ble_eq_true (by kernel_rfl)) (by kernel_rfl) ⟨(Pk.app (Pk.app (Pk.of_sub (List.Sublist.cons _ (List.Sublist.cons_cons _ (List.nil_sublist _)))) _) _), (fun f hf => List.mem_append_left _ (List.mem_append_left _ (hf))), ?_⟩)
        refine LO_v rfl rfl rfl rfl (V_fieldAddr rfl rfl Try.underlying30 rfl sz27q rfl) ?_
        refine LO_s rfl rfl rfl (S_store1 0 (l' := svC t v sn s1 s2 (ownV q1 es.length) (.slice s3.1 gl.length s3.2)) rfl rfl rfl rfl rfl rfl sz27q (Nat.le_of_ble_eq_true (by kernel_rfl)) (by kernel_rfl) ⟨(Pk.app (Pk.app (Pk.of_sub (List.Sublist.cons _ (List.Sublist.cons_cons _ (List.nil_sublist _)))) _) _), (fun f hf => List.mem_append_left _ (List.mem_append_left _ (hf))), ?_⟩)
        refine LO_v rfl rfl rfl rfl (V_fieldAddr rfl rfl Try.underlying30 rfl sz28q rfl) ?_
        refine LO_s rfl rfl rfl (S_store1 0 (l' := svC t v sn s1 s2 (ownV q1 es.length) (ownV q3 gl.length)) rfl rfl rfl rfl rfl rfl sz28q (Nat.le_of_ble_eq_true (by kernel_rfl)) (by kernel_rfl) ⟨(Pk.app (Pk.app (Pk.of_sub (List.Sublist.cons _ (List.Sublist.cons_cons _ (List.nil_sublist _)))) _) _), (fun f hf => List.mem_append_left _ (List.mem_append_left _ (hf))), ?_⟩)
        refine LO_nil ?_
        change J _ _ _ _
        refine J_seq ?_
        refine J_region ?_
        refine L_v rfl rfl rfl (V_loadT 0 (vs := svC t v sn s1 s2 (ownV q1 es.length) (ownV q3 gl.length)) rfl rfl rfl Try.underlying30 rfl sz30q (by kernel_rfl) (by kernel_rfl)) ?_
        refine L_storeW 1 rfl rfl rfl rfl rfl rfl (szd sz30q (by kernel_rfl)) (all_one (by kernel_rfl)) (by kernel_rfl) ?_
        refine L_nil ?_
        change J _ _ _ _
        refine J_ret ?_
        change Kret _ _ _ Exit.ret _
        refine ret1 rfl rfl (RV_c 1 rfl rfl Try.underlying30 rfl (szd sz30q (by kernel_rfl))) ?_
        exact fun w' h => ⟨s1, s2, q1, q3, gs, rfl, hgs, h.fr, hq1, hq3.own, NewL.of h rfl (List.Sublist.cons _ (List.Sublist.cons _ (List.Sublist.refl _))) (fun f hf => by
          rcases List.mem_cons.1 hf with rfl | hf
          · exact List.mem_append_left _ (List.mem_append_right _ (List.mem_singleton.2 rfl))
          · exact List.mem_append_right _ hf) (fun f hf => by
          rcases List.mem_cons.1 hf with rfl | hf
          · exact n1
          · obtain rfl := List.mem_singleton.1 hf
            exact n2)⟩
    ·
      refine LO_s rfl rfl rfl (S_v rfl rfl (V_load1 0 rfl rfl rfl Try.underlying28 rfl (by rfl)) ⟨(Pk.of_sub (List.Sublist.cons _ (List.Sublist.cons_cons _ (List.nil_sublist _)))), (fun f hf => hf), ?_⟩)
      refine LO_s rfl rfl rfl (S_v rfl rfl (V_loadT 0 (vs := snX sn a b) rfl rfl rfl Try.underlying26 rfl sz26q (by kernel_rfl) (by kernel_rfl)) ⟨(Pk.of_sub (List.Sublist.cons _ (List.Sublist.cons_cons _ (List.nil_sublist _)))), (fun f hf => hf), ?_⟩)
      refine LO_s rfl rfl rfl (S_call rfl rfl rfl tx43q (fun w1 hw => (ownSnapP_w sn a b w1 (hw.fa 0 rfl) hB).mono ?_))
      rintro e w' ⟨s1, s2, rfl, hfr, hn1⟩
      have n1 : ∀ k, (clT 3 sn.2.2.1 s1 s2).fp k → w.heap.size ≤ k := fun k hk => Nat.le_trans hw.fr.size (hn1.new k hk)
      refine ⟨_, _, _, rfl, hw.newN hfr hn1, rfl, (Pk.of_sub (List.Sublist.cons _ (List.Sublist.cons_cons _ (List.nil_sublist _)))), (fun f hf => List.mem_append_left _ (hf)), ?_⟩
      refine LO_v rfl rfl rfl rfl (V_fieldAddr rfl rfl Try.underlying30 rfl sz26q rfl) ?_
      refine LO_s rfl rfl rfl (S_call rfl rfl rfl tx44q (fun w1 hw => (ownEntries_w es s w1 (hw.fa 1 rfl) hE hBe).mono ?_))
      rintro e w' ⟨q1, gs, rfl, hgs, hfr, hq1, hn2⟩
      have n2 : ∀ k, (allF (gs.map (enT 3))).fp k → w.heap.size ≤ k := fun k hk => Nat.le_trans hw.fr.size ((hn2.fa _ (List.mem_singleton.2 rfl)).new k hk)
      refine ⟨_, _, _, rfl, hw.addL hfr hn2, rfl, (Pk.app (Pk.of_sub (List.Sublist.cons _ (List.Sublist.cons_cons _ (List.nil_sublist _)))) _), (fun f hf => List.mem_append_left _ (List.mem_append_left _ (hf))), ?_⟩
      refine LO_s rfl rfl rfl (S_call rfl rfl rfl tx45q (fun w1 hw => (cloneG_w s3 gl w1 (hw.fa 2 rfl) hBg).mono ?_))
      rintro e w' ⟨q3, rfl, hfr, hq3⟩
      refine ⟨_, _, _, rfl, hw.addOwn hfr hq3, rfl, (Pk.app (Pk.app (Pk.of_sub (List.Sublist.cons _ (List.Sublist.cons_cons _ (List.nil_sublist _)))) _) _), (fun f hf => List.mem_append_left _ (List.mem_append_left _ (hf))), ?_⟩
      refine LO_s rfl rfl rfl (S_store 0 (l' := svC t v sn s1 s2 (.slice s.1 es.length s.2) (.slice s3.1 gl.length s3.2)) rfl rfl rfl rfl rfl rfl (szd sz26q (by kernel_rfl)) (all_one (by kernel_rfl)) (Nat.le_of_ble_eq_true (by kernel_rfl)) (by kernel_rfl) ⟨(Pk.app (Pk.app (Pk.of_sub (List.Sublist.cons _ (List.Sublist.cons_cons _ (List.nil_sublist _)))) _) _), (fun f hf => List.mem_append_left _ (List.mem_append_left _ (hf))), ?_⟩)
      refine LO_v rfl rfl rfl rfl (V_fieldAddr rfl rfl Try.underlying30 rfl sz27q rfl) ?_
      refine LO_s rfl rfl rfl (S_store1 0 (l' := svC t v sn s1 s2 (ownV q1 es.length) (.slice s3.1 gl.length s3.2)) rfl rfl rfl rfl rfl rfl sz27q (Nat.le_of_ble_eq_true (by kernel_rfl)) (by kernel_rfl) ⟨(Pk.app (Pk.app (Pk.of_sub (List.Sublist.cons _ (List.Sublist.cons_cons _ (List.nil_sublist _)))) _) _), (fun f hf => List.mem_append_left _ (List.mem_append_left _ (hf))), ?_⟩)
      refine LO_v rfl rfl rfl rfl (V_fieldAddr rfl rfl Try.underlying30 rfl sz28q rfl) ?_
      refine LO_s rfl rfl rfl (S_store1 0 (l' := svC t v sn s1 s2 (ownV q1 es.length) (ownV q3 gl.length)) rfl rfl rfl rfl rfl rfl sz28q (Nat.le_of_ble_eq_true (by kernel_rfl)) (by kernel_rfl) ⟨(Pk.app (Pk.app (Pk.of_sub (List.Sublist.cons _ (List.Sublist.cons_cons _ (List.nil_sublist _)))) _) _), (fun f hf => List.mem_append_left _ (List.mem_append_left _ (hf))), ?_⟩)
      refine LO_nil ?_
      change J _ _ _ _
      refine J_seq ?_
      refine J_region ?_
      refine L_v rfl rfl rfl (V_loadT 0 (vs := svC t v sn s1 s2 (ownV q1 es.length) (ownV q3 gl.length)) rfl rfl rfl Try.underlying30 rfl sz30q (by kernel_rfl) (by kernel_rfl)) ?_
      refine L_storeW 1 rfl rfl rfl rfl rfl rfl (szd sz30q (by kernel_rfl)) (all_one (by kernel_rfl)) (by kernel_rfl) ?_
      refine L_nil ?_
      change J _ _ _ _
      refine J_ret ?_
      change Kret _ _ _ Exit.ret _
      refine ret1 rfl rfl (RV_c 1 rfl rfl Try.underlying30 rfl (szd sz30q (by kernel_rfl))) ?_
      exact fun w' h => ⟨s1, s2, q1, q3, gs, rfl, hgs, h.fr, hq1, hq3.own, NewL.of h rfl (List.Sublist.cons _ (List.Sublist.cons _ (List.Sublist.refl _))) (fun f hf => by
        rcases List.mem_cons.1 hf with rfl | hf
        · exact List.mem_append_left _ (List.mem_append_right _ (List.mem_singleton.2 rfl))
        · exact List.mem_append_right _ hf) (fun f hf => by
        rcases List.mem_cons.1 hf with rfl | hf
        · exact n1
        · obtain rfl := List.mem_singleton.1 hf
          exact n2)⟩
  ·
    refine LO_s rfl rfl rfl (S_v rfl rfl (V_load1 0 rfl rfl rfl Try.underlying28 rfl (by rfl)) ⟨(Pk.of_sub (List.Sublist.cons _ (List.Sublist.cons_cons _ (List.nil_sublist _)))), (fun f hf => hf), ?_⟩)
    refine LO_both ?_ ?_
    ·
      refine LO_s rfl rfl rfl (S_v rfl rfl (V_loadT 0 (vs := snX sn a b) rfl rfl rfl Try.underlying26 rfl sz26q (by kernel_rfl) (by kernel_rfl)) ⟨(Pk.of_sub (List.Sublist.cons _ (List.Sublist.cons_cons _ (List.nil_sublist _)))), (fun f hf => hf), ?_⟩)
      refine LO_both ?_ ?_
      ·
        refine LO_s rfl rfl rfl (S_call rfl rfl rfl tx43q (fun w1 hw => (ownSnapP_w sn a b w1 (hw.fa 0 rfl) hB).mono ?_))
        rintro e w' ⟨s1, s2, rfl, hfr, hn1⟩
        have n1 : ∀ k, (clT 3 sn.2.2.1 s1 s2).fp k → w.heap.size ≤ k := fun k hk => Nat.le_trans hw.fr.size (hn1.new k hk)
        refine ⟨_, _, _, rfl, hw.newN hfr hn1, rfl, (Pk.of_sub (List.Sublist.cons _ (List.Sublist.cons_cons _ (List.nil_sublist _)))), (fun f hf => List.mem_append_left _ (hf)), ?_⟩
        refine LO_s rfl rfl rfl (S_v rfl rfl (V_load1 0 rfl rfl rfl Try.underlying27 rfl (by rfl)) ⟨(Pk.of_sub (List.Sublist.cons _ (List.Sublist.cons_cons _ (List.nil_sublist _)))), (fun f hf => List.mem_append_left _ (hf)), ?_⟩)
        refine LO_v rfl rfl rfl rfl (V_fieldAddr rfl rfl Try.underlying30 rfl sz26q rfl) ?_
        refine LO_s rfl rfl rfl (S_call rfl rfl rfl tx44q (fun w1 hw => (ownEntries_w es s w1 (hw.fa 1 rfl) hE hBe).mono ?_))
        rintro e w' ⟨q1, gs, rfl, hgs, hfr, hq1, hn2⟩
        have n2 : ∀ k, (allF (gs.map (enT 3))).fp k → w.heap.size ≤ k := fun k hk => Nat.le_trans hw.fr.size ((hn2.fa _ (List.mem_singleton.2 rfl)).new k hk)
        refine ⟨_, _, _, rfl, hw.addL hfr hn2, rfl, (Pk.app (Pk.of_sub (List.Sublist.cons _ (List.Sublist.cons_cons _ (List.nil_sublist _)))) _), (fun f hf => List.mem_append_left _ (List.mem_append_left _ (hf))), ?_⟩
        refine LO_s rfl rfl rfl (S_call rfl rfl rfl tx45q (fun w1 hw => (cloneG_w s3 gl w1 (hw.fa 2 rfl) hBg).mono ?_))
        rintro e w' ⟨q3, rfl, hfr, hq3⟩
        refine ⟨_, _, _, rfl, hw.addOwn hfr hq3, rfl, (Pk.app (Pk.app (Pk.of_sub (List.Sublist.cons _ (List.Sublist.cons_cons _ (List.nil_sublist _)))) _) _), (fun f hf => List.mem_append_left _ (List.mem_append_left _ (hf))), ?_⟩
        refine LO_s rfl rfl rfl (S_store 0 (l' := svC t v sn s1 s2 (.slice s.1 es.length s.2) (.slice s3.1 gl.length s3.2)) rfl rfl rfl rfl rfl rfl (szd sz26q (by kernel_rfl)) (all_one (by kernel_rfl)) (Nat.le_of_ble_eq_true (by kernel_rfl)) (by kernel_rfl) ⟨(Pk.app (Pk.app (Pk.of_sub (List.Sublist.cons _ (List.Sublist.cons_cons _ (List.nil_sublist _)))) _) _), (fun f hf => List.mem_append_left _ (List.mem_append_left _ (hf))), ?_⟩)
        refine LO_v rfl rfl rfl rfl (V_fieldAddr rfl rfl Try.underlying30 rfl sz27q rfl) ?_
        refine LO_s rfl rfl rfl (S_store1 0 (l' := svC t v sn s1 s2 (ownV q1 es.length) (.slice s3.1 gl.length s3.2)) rfl rfl rfl rfl rfl rfl sz27q (Nat.le_of_ble_eq_true (by kernel_rfl)) (by kernel_rfl) ⟨(Pk.app (Pk.app (Pk.of_sub (List.Sublist.cons _ (List.Sublist.cons_cons _ (List.nil_sublist _)))) _) _), (fun f hf => List.mem_append_left _ (List.mem_append_left _ (hf))), ?_⟩)
        refine LO_v rfl rfl rfl rfl (V_fieldAddr rfl rfl Try.underlying30 rfl sz28q rfl) ?_
        refine LO_s rfl rfl rfl (S_store1 0 (l' := svC t v sn s1 s2 (ownV q1 es.length) (ownV q3 gl.length)) rfl rfl rfl rfl rfl rfl sz28q (Nat.le_of_ble_eq_true (by kernel_rfl)) (by kernel_rfl) ⟨(Pk.app (Pk.app (Pk.of_sub (List.Sublist.cons _ (List.Sublist.cons_cons _ (List.nil_sublist _)))) _) _), (fun f hf => List.mem_append_left _ (List.mem_append_left _ (hf))), ?_⟩)
        refine LO_nil ?_
        change J _ _ _ _
        refine J_seq ?_
        refine J_region ?_
        refine L_v rfl rfl rfl (V_loadT 0 (vs := svC t v sn s1 s2 (ownV q1 es.length) (ownV q3 gl.length)) rfl rfl rfl Try.underlying30 rfl sz30q (by kernel_rfl) (by kernel_rfl)) ?_
        refine L_storeW 1 rfl rfl rfl rfl rfl rfl (szd sz30q (by kernel_rfl)) (all_one (by kernel_rfl)) (by kernel_rfl) ?_
        refine L_nil ?_
        change J _ _ _ _
        refine J_ret ?_
        change Kret _ _ _ Exit.ret _
        refine ret1 rfl rfl (RV_c 1 rfl rfl Try.underlying30 rfl (szd sz30q (by kernel_rfl))) ?_
        exact fun w' h => ⟨s1, s2, q1, q3, gs, rfl, hgs, h.fr, hq1, hq3.own, NewL.of h rfl (List.Sublist.cons _ (List.Sublist.cons _ (List.Sublist.refl _))) (fun f hf => by
          rcases List.mem_cons.1 hf with rfl | hf
          · exact List.mem_append_left _ (List.mem_append_right _ (List.mem_singleton.2 rfl))
          · exact List.mem_append_right _ hf) (fun f hf => by
          rcases List.mem_cons.1 hf with rfl | hf
          · exact n1
          · obtain rfl := List.mem_singleton.1 hf
            exact n2)⟩
      ·
        refine LO_s rfl rfl rfl (S_v rfl rfl (V_load1 0 rfl rfl rfl Try.underlying27 rfl (by rfl)) ⟨(Pk.of_sub (List.Sublist.cons _ (List.Sublist.cons_cons _ (List.nil_sublist _)))), (fun f hf => hf), ?_⟩)
        refine LO_s rfl rfl rfl (S_call rfl rfl rfl tx43q (fun w1 hw => (ownSnapP_w sn a b w1 (hw.fa 0 rfl) hB).mono ?_))
        rintro e w' ⟨s1, s2, rfl, hfr, hn1⟩
        have n1 : ∀ k, (clT 3 sn.2.2.1 s1 s2).fp k → w.heap.size ≤ k := fun k hk => Nat.le_trans hw.fr.size (hn1.new k hk)
        refine ⟨_, _, _, rfl, hw.newN hfr hn1, rfl, (Pk.of_sub (List.Sublist.cons _ (List.Sublist.cons_cons _ (List.nil_sublist _)))), (fun f hf => List.mem_append_left _ (hf)), ?_⟩
        refine LO_v rfl rfl rfl rfl (V_fieldAddr rfl rfl Try.underlying30 rfl sz26q rfl) ?_
        refine LO_s rfl rfl rfl (S_call rfl rfl rfl tx44q (fun w1 hw => (ownEntries_w es s w1 (hw.fa 1 rfl) hE hBe).mono ?_))
        rintro e w' ⟨q1, gs, rfl, hgs, hfr, hq1, hn2⟩
        have n2 : ∀ k, (allF (gs.map (enT 3))).fp k → w.heap.size ≤ k := fun k hk => Nat.le_trans hw.fr.size ((hn2.fa _ (List.mem_singleton.2 rfl)).new k hk)
        refine ⟨_, _, _, rfl, hw.addL hfr hn2, rfl, (Pk.app (Pk.of_sub (List.Sublist.cons _ (List.Sublist.cons_cons _ (List.nil_sublist _)))) _), (fun f hf => List.mem_append_left _ (List.mem_append_left _ (hf))), ?_⟩
        refine LO_s rfl rfl rfl (S_call rfl rfl rfl tx45q (fun w1 hw => (cloneG_w s3 gl w1 (hw.fa 2 rfl) hBg).mono ?_))
        rintro e w' ⟨q3, rfl, hfr, hq3⟩
        refine ⟨_, _, _, rfl, hw.addOwn hfr hq3, rfl, (Pk.app (Pk.app (Pk.of_sub (List.Sublist.cons _ (List.Sublist.cons_cons _ (List.nil_sublist _)))) _) _), (fun f hf => List.mem_append_left _ (List.mem_append_left _ (hf))), ?_⟩
        refine LO_s rfl rfl rfl (S_store 0 (l' := svC t v sn s1 s2 (.slice s.1 es.length s.2) (.slice s3.1 gl.length s3.2)) rfl rfl rfl rfl rfl rfl (szd sz26q (by kernel_rfl)) (all_one (by kernel_rfl)) (Nat.le_of_ble_eq_true (by kernel_rfl)) (by kernel_rfl) ⟨(Pk.app (Pk.app (Pk.of_sub (List.Sublist.cons _ (List.Sublist.cons_cons _ (List.nil_sublist _)))) _) _), (fun f hf => List.mem_append_left _ (List.mem_append_left _ (hf))), ?_⟩)
        refine LO_v rfl rfl rfl rfl (V_fieldAddr rfl rfl Try.underlying30 rfl sz27q rfl) ?_
        refine LO_s rfl rfl rfl (S_store1 0 (l' := svC t v sn s1 s2 (ownV q1 es.length) (.slice s3.1 gl.length s3.2)) rfl rfl rfl rfl rfl rfl sz27q (Nat.le_of_ble_eq_true (by kernel_rfl)) (by kernel_rfl) ⟨(Pk.app (Pk.app (Pk.of_sub (List.Sublist.cons _ (List.Sublist.cons_cons _ (List.nil_sublist _)))) _) _), (fun f hf => List.mem_append_left _ (List.mem_append_left _ (hf))), ?_⟩)
        refine LO_v rfl rfl rfl rfl (V_fieldAddr rfl rfl Try.underlying30 rfl sz28q rfl) ?_
        refine LO_s rfl rfl rfl (S_store1 0 (l' := svC t v sn s1 s2 (ownV q1 es.length) (ownV q3 gl.length)) rfl rfl rfl rfl rfl rfl sz28q (Nat.le_of_ble_eq_true (by kernel_rfl)) (by kernel_rfl) ⟨(Pk.app (Pk.app (Pk.of_sub (List.Sublist.cons _ (List.Sublist.cons_cons _ (List.nil_sublist _)))) _) _), (fun f hf => List.mem_append_left _ (List.mem_append_left _ (hf))), ?_⟩)
        refine LO_nil ?_
        change J _ _ _ _
        refine J_seq ?_
        refine J_region ?_
        refine L_v rfl rfl rfl (V_loadT 0 (vs := svC t v sn s1 s2 (ownV q1 es.length) (ownV q3 gl.length)) rfl rfl rfl Try.underlying30 rfl sz30q (by kernel_rfl) (by kernel_rfl)) ?_
        refine L_storeW 1 rfl rfl rfl rfl rfl rfl (szd sz30q (by kernel_rfl)) (all_one (by kernel_rfl)) (by kernel_rfl) ?_
        refine L_nil ?_
        change J _ _ _ _
        refine J_ret ?_
        change Kret _ _ _ Exit.ret _
        refine ret1 rfl rfl (RV_c 1 rfl rfl Try.underlying30 rfl (szd sz30q (by kernel_rfl))) ?_
        exact fun w' h => ⟨s1, s2, q1, q3, gs, rfl, hgs, h.fr, hq1, hq3.own, NewL.of h rfl (List.Sublist.cons _ (List.Sublist.cons _ (List.Sublist.refl _))) (fun f hf => by
          rcases List.mem_cons.1 hf with rfl | hf
          · exact List.mem_append_left _ (List.mem_append_right _ (List.mem_singleton.2 rfl))
          · exact List.mem_append_right _ hf) (fun f hf => by
          rcases List.mem_cons.1 hf with rfl | hf
          · exact n1
          · obtain rfl := List.mem_singleton.1 hf
            exact n2)⟩
    ·
      refine LO_s rfl rfl rfl (S_v rfl rfl (V_load1 0 rfl rfl rfl Try.underlying27 rfl (by rfl)) ⟨(Pk.of_sub (List.Sublist.cons _ (List.Sublist.cons_cons _ (List.nil_sublist _)))), (fun f hf => hf), ?_⟩)
      refine LO_s rfl rfl rfl (S_v rfl rfl (V_loadT 0 (vs := snX sn a b) rfl rfl rfl Try.underlying26 rfl sz26q (by kernel_rfl) (by kernel_rfl)) ⟨(Pk.of_sub (List.Sublist.cons _ (List.Sublist.cons_cons _ (List.nil_sublist _)))), (fun f hf => hf), ?_⟩)
      refine LO_s rfl rfl rfl (S_call rfl rfl rfl tx43q (fun w1 hw => (ownSnapP_w sn a b w1 (hw.fa 0 rfl) hB).mono ?_))
      rintro e w' ⟨s1, s2, rfl, hfr, hn1⟩
      have n1 : ∀ k, (clT 3 sn.2.2.1 s1 s2).fp k → w.heap.size ≤ k := fun k hk => Nat.le_trans hw.fr.size (hn1.new k hk)
      refine ⟨_, _, _, rfl, hw.newN hfr hn1, rfl, (Pk.of_sub (List.Sublist.cons _ (List.Sublist.cons_cons _ (List.nil_sublist _)))), (fun f hf => List.mem_append_left _ (hf)), ?_⟩
      refine LO_v rfl rfl rfl rfl (V_fieldAddr rfl rfl Try.underlying30 rfl sz26q rfl) ?_
      refine LO_s rfl rfl rfl (S_call rfl rfl rfl tx44q (fun w1 hw => (ownEntries_w es s w1 (hw.fa 1 rfl) hE hBe).mono ?_))
      rintro e w' ⟨q1, gs, rfl, hgs, hfr, hq1, hn2⟩
      have n2 : ∀ k, (allF (gs.map (enT 3))).fp k → w.heap.size ≤ k := fun k hk => Nat.le_trans hw.fr.size ((hn2.fa _ (List.mem_singleton.2 rfl)).new k hk)
      refine ⟨_, _, _, rfl, hw.addL hfr hn2, rfl, (Pk.app (Pk.of_sub (List.Sublist.cons _ (List.Sublist.cons_cons _ (List.nil_sublist _)))) _), (fun f hf => List.mem_append_left _ (List.mem_append_left _ (hf))), ?_⟩
      refine LO_s rfl rfl rfl (S_call rfl rfl rfl tx45q (fun w1 hw => (cloneG_w s3 gl w1 (hw.fa 2 rfl) hBg).mono ?_))
      rintro e w' ⟨q3, rfl, hfr, hq3⟩
      refine ⟨_, _, _, rfl, hw.addOwn hfr hq3, rfl, (Pk.app (Pk.app (Pk.of_sub (List.Sublist.cons _ (List.Sublist.cons_cons _ (List.nil_sublist _)))) _) _), (fun f hf => List.mem_append_left _ (List.mem_append_left _ (hf))), ?_⟩
      refine LO_s rfl rfl rfl (S_store 0 (l' := svC t v sn s1 s2 (.slice s.1 es.length s.2) (.slice s3.1 gl.length s3.2)) rfl rfl rfl rfl rfl rfl (szd sz26q (by kernel_rfl)) (all_one (by kernel_rfl)) (Nat.le_of_ble_eq_true (by kernel_rfl)) (by kernel_rfl) ⟨(Pk.app (Pk.app (Pk.of_sub (List.Sublist.cons _ (List.Sublist.cons_cons _ (List.nil_sublist _)))) _) _), (fun f hf => List.mem_append_left _ (List.mem_append_left _ (hf))), ?_⟩)
      refine LO_v rfl rfl rfl rfl (V_fieldAddr rfl rfl Try.underlying30 rfl sz27q rfl) ?_
      refine LO_s rfl rfl rfl (S_store1 0 (l' := svC t v sn s1 s2 (ownV q1 es.length) (.slice s3.1 gl.length s3.2)) rfl rfl rfl rfl rfl rfl sz27q (Nat.le_of_ble_eq_true (by kernel_rfl)) (by kernel_rfl) ⟨(Pk.app (Pk.app (Pk.of_sub (List.Sublist.cons _ (List.Sublist.cons_cons _ (List.nil_sublist _)))) _) _), (fun f hf => List.mem_append_left _ (List.mem_append_left _ (hf))), ?_⟩)
      refine LO_v rfl rfl rfl rfl (V_fieldAddr rfl rfl Try.underlying30 rfl sz28q rfl) ?_
      refine LO_s rfl rfl rfl (S_store1 0 (l' := svC t v sn s1 s2 (ownV q1 es.length) (ownV q3 gl.length)) rfl rfl rfl rfl rfl rfl sz28q (Nat.le_of_ble_eq_true (by kernel_rfl)) (by kernel_rfl) ⟨(Pk.app (Pk.app (Pk.of_sub (List.Sublist.cons _ (List.Sublist.cons_cons _ (List.nil_sublist _)))) _) _), (fun f hf => List.mem_append_left _ (List.mem_append_left _ (hf))), ?_⟩)
      refine LO_nil ?_
      change J _ _ _ _
      refine J_seq ?_
      refine J_region ?_
      refine L_v rfl rfl rfl (V_loadT 0 (vs := svC t v sn s1 s2 (ownV q1 es.length) (ownV q3 gl.length)) rfl rfl rfl Try.underlying30 rfl sz30q (by kernel_rfl) (by kernel_rfl)) ?_
      refine L_storeW 1 rfl rfl rfl rfl rfl rfl (szd sz30q (by kernel_rfl)) (all_one (by kernel_rfl)) (by kernel_rfl) ?_
      refine L_nil ?_
      change J _ _ _ _
      refine J_ret ?_
      change Kret _ _ _ Exit.ret _
      refine ret1 rfl rfl (RV_c 1 rfl rfl Try.underlying30 rfl (szd sz30q (by kernel_rfl))) ?_
      exact fun w' h => ⟨s1, s2, q1, q3, gs, rfl, hgs, h.fr, hq1, hq3.own, NewL.of h rfl (List.Sublist.cons _ (List.Sublist.cons _ (List.Sublist.refl _))) (fun f hf => by
        rcases List.mem_cons.1 hf with rfl | hf
        · exact List.mem_append_left _ (List.mem_append_right _ (List.mem_singleton.2 rfl))
        · exact List.mem_append_right _ hf) (fun f hf => by
        rcases List.mem_cons.1 hf with rfl | hf
        · exact n1
        · obtain rfl := List.mem_singleton.1 hf
          exact n2)⟩

end Go.Proofs.Ytcdenfkbhefbbaa
