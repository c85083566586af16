/- What is saved, in memory of its own. -/
import Derived.Test.YtcdenfkbhefbbaaV1
set_option linter.unusedVariables false
set_option linter.unusedSimpArgs false
set_option maxRecDepth 100000
namespace Go.Proofs.Ytcdenfkbhefbbaa
open Go.Sx
abbrev SzC (x : Cl) : Prop := x.1.length ≤ 17592186044416 ∧ x.2.length ≤ 17592186044416
abbrev cut (es acc : List EnV) (r : List Value) (i : Nat) : List Value := ((acc ++ es.drop i).map enW).flatten ++ r
theorem fl_len (l : List EnV) : (l.map enW).flatten.length = l.length * 43 := by
  induction l with
  | nil => rfl
  | cons x l ih => rw [List.map_cons, List.flatten_cons, List.length_append, ih, List.length_cons, enW_len]; omega
theorem drop_cons {es : List EnV} {i : Nat} (h : i < es.length) : es.drop i = es.getD i env0 :: es.drop (i + 1) := by
  rw [List.drop_eq_getElem_cons h, List.getD_eq_getElem?_getD, List.getElem?_eq_getElem h]
  rfl
theorem cut_cell {es acc : List EnV} {r : List Value} {i k : Nat} (ha : acc.length = i) (hi : i < es.length) (hk : k < 43) : (cut es acc r i)[0 + ((i : Nat) : Int).toNat * 43 + k]? = (enW (es.getD i env0))[k]? := by
  unfold cut
  rw [drop_cons hi, List.map_append, List.flatten_append, List.append_assoc, Int.toNat_natCast, Nat.zero_add, List.getElem?_append_right (by rw [fl_len, ha]; omega), fl_len, ha, Nat.add_sub_cancel_left, List.map_cons, List.flatten_cons, List.append_assoc, List.getElem?_append_left (by rw [enW_len]; exact hk)]
theorem cut_len {es acc : List EnV} {r : List Value} {i : Nat} (ha : acc.length = i) (hi : i < es.length) : 0 + ((i : Nat) : Int).toNat * 43 + 41 + 2 ≤ (cut es acc r i).length := by
  unfold cut
  rw [List.length_append, fl_len, List.length_append, List.length_drop, ha, Int.toNat_natCast]
  omega
theorem cut_set {es acc : List EnV} {r : List Value} {i : Nat} {a b : Sp} (ha : acc.length = i) (hi : i < es.length) :
    (cut es acc r i).take (0 + ((i : Nat) : Int).toNat * 43 + 41) ++ clX (es.getD i env0).1.2.2.2.2 a b ++ (cut es acc r i).drop (0 + ((i : Nat) : Int).toNat * 43 + 41 + (clX (es.getD i env0).1.2.2.2.2 a b).length) = cut es (acc ++ [((es.getD i env0).1, a, b)]) r (i + 1) := by
  have e1 : cut es acc r i = (acc.map enW).flatten ++ (enW (es.getD i env0) ++ (((es.drop (i + 1)).map enW).flatten ++ r)) := by
    unfold cut
    rw [drop_cons hi, List.map_append, List.flatten_append, List.map_cons, List.flatten_cons, List.append_assoc, List.append_assoc]
  have e2 : cut es (acc ++ [((es.getD i env0).1, a, b)]) r (i + 1) = (acc.map enW).flatten ++ (enW ((es.getD i env0).1, a, b) ++ (((es.drop (i + 1)).map enW).flatten ++ r)) := by
    unfold cut
    rw [List.append_assoc, List.map_append, List.flatten_append, List.singleton_append, List.map_cons, List.flatten_cons, List.append_assoc, List.append_assoc]
  have hl : (acc.map enW).flatten.length = i * 43 := by rw [fl_len, ha]
  have h43 : (enW (es.getD i env0)).length = 43 := enW_len _
  have kt : ∀ (A e B : List Value), e.length = 43 → (A ++ (e ++ B)).take (A.length + 41) = A ++ e.take 41 := fun A e B he => by
    rw [List.take_append, List.take_of_length_le (by omega), Nat.add_sub_cancel_left, List.take_append_of_le_length (by omega)]
  have kd : ∀ (A e B : List Value), e.length = 43 → (A ++ (e ++ B)).drop (A.length + 43) = B := fun A e B he => by
    rw [← List.append_assoc, List.drop_left' (by rw [List.length_append, he])]
  rw [e1, e2, Int.toNat_natCast, Nat.zero_add, show i * 43 + 41 + (clX (es.getD i env0).1.2.2.2.2 a b).length = i * 43 + 43 from rfl, ← hl, kt _ _ _ h43, kd _ _ _ h43, List.append_assoc, List.append_assoc]
  rfl
theorem factsT_app {f0 : List Fact} {acc : List EnV} {p : EnV} {I : TypeId} : ∀ f ∈ f0 ++ (acc ++ [p]).map (enT I), f ∈ (f0 ++ acc.map (enT I)) ++ [enT I p] := by
  intro f hf
  simp only [List.map_append, List.mem_append, List.map_cons, List.map_nil] at hf ⊢
  rcases hf with h | h | h
  · exact .inl (.inl h)
  · exact .inl (.inr h)
  · exact .inr h
theorem acc_fst {acc es : List EnV} {i : Nat} {a b : Sp} (h : i < es.length) (ha : acc.map Prod.fst = (es.take i).map Prod.fst) : (acc ++ [((es.getD i env0).1, a, b)]).map Prod.fst = (es.take (i + 1)).map Prod.fst := by
  rw [take_s env0 h, List.map_append, List.map_append, ha]
  rfl
theorem sz22o : (Try.prog.info? 22).map (·.size) = some 1 := by kernel_rfl
theorem sz24o : (Try.prog.info? 24).map (·.size) = some 2 := by kernel_rfl
theorem sz26o : (Try.prog.info? 26).map (·.size) = some 5 := by kernel_rfl
theorem sz39o : (Try.prog.info? 39).map (·.size) = some 43 := by kernel_rfl
theorem tx60o : Txt Try.prog 60 := txt_of Try.func60 rfl (by kernel_rfl)
theorem tx61o : Txt Try.prog 61 := txt_of Try.func61 rfl (by kernel_rfl)
theorem tx79o : Txt Try.prog 79 := txt_of Try.func79 rfl (by kernel_rfl)
theorem z24o : (Try.prog.info? 24).bind (·.zero) = some (.agg [.slice none 0 0, .slice none 0 0].toArray) := by kernel_rfl
theorem z26o : (Try.prog.info? 26).bind (·.zero) = some (.agg [.int .i64 0, .int .i64 0, .slice none 0 0, .slice none 0 0, .string ByteArray.empty].toArray) := by kernel_rfl

theorem ownCouncilP_w (x : Cl) (a1 a2 : Sp) (w : World) (f1 : FA w (clA x a1 a2)) (hB : SzC x) :
    Calls Try.prog 60 #[.agg (clX x a1 a2).toArray] w fun e w' => ∃ s1 s2 : Sp, e = .returned (.agg (clX x s1 s2).toArray) ∧ Fr [] w w' ∧ NewF w w' (clT 3 x s1 s2) := by
  refine calls_of (args := [.agg (clX x a1 a2).toArray]) ([]) ([]) ([clA x a1 a2]) Try.func60 rfl rfl (okFW (.cons f1 .nil)) ?_
  refine J_seq ?_
  refine J_region ?_
  refine L_box rfl rfl rfl rfl rfl (fun b0 => ?_)
  refine L_alloc rfl rfl rfl rfl z24o (fun b1 => ?_)
  refine L_nil ?_
  change J _ _ _ _
  refine J_seq ?_
  refine J_regionO (.pure 0 (.pure 1 (.pure 3 (.pure 4 (.one 2 (.one 5 (.pure 6 (.one 7 (.nil))))))))) ([(b0, row 24 (clX x a1 a2))]) _ (Pk.of_sub (List.Sublist.cons_cons _ (List.nil_sublist _))) (fun f hf => hf) rfl rfl (by kernel_rfl) ?_
  refine LO_v rfl rfl rfl rfl (V_fieldAddr rfl rfl Try.underlying24 rfl sz22o rfl) ?_
  refine LO_v rfl rfl rfl rfl (V_load1 0 rfl rfl rfl Try.underlying22 rfl (by rfl)) ?_
  refine LO_v rfl rfl rfl rfl (V_fieldAddr rfl rfl Try.underlying24 rfl sz22o rfl) ?_
  refine LO_v rfl rfl rfl rfl (V_load1 0 rfl rfl rfl Try.underlying22 rfl (by rfl)) ?_
  refine LO_s rfl rfl rfl (S_call rfl rfl rfl tx79o (fun w1 hw => (cloneI_w a1 x.1 w1 (hw.fa 0 rfl).l hB.1).mono ?_))
  rintro e w' ⟨q1, rfl, hfr, gn1⟩
  have hn1 := gn1.fact (by decide)
  have n1 : ∀ k, (_ : Fact).fp k → w.heap.size ≤ k := fun k hk => Nat.le_trans hw.fr.size (hn1.new k hk)
  refine ⟨_, _, _, rfl, hw.newN hfr hn1, rfl, (Pk.of_sub (List.Sublist.cons_cons _ (List.nil_sublist _))), (fun f hf => List.mem_append_left _ (hf)), ?_⟩
  refine LO_s rfl rfl rfl (S_call rfl rfl rfl tx79o (fun w1 hw => (cloneI_w a2 x.2 w1 (hw.fa 0 rfl).r hB.2).mono ?_))
  rintro e w' ⟨q2, rfl, hfr, gn2⟩
  have hn2 := gn2.fact (by decide)
  have n2 : ∀ k, (_ : Fact).fp k → w.heap.size ≤ k := fun k hk => Nat.le_trans hw.fr.size (hn2.new k hk)
  refine ⟨_, _, _, rfl, hw.newN hfr hn2, rfl, (Pk.of_sub (List.Sublist.cons_cons _ (List.nil_sublist _))), (fun f hf => List.mem_append_left _ (List.mem_append_left _ (hf))), ?_⟩
  refine LO_v rfl rfl rfl rfl (V_buildE (v := .agg (clX x (oA q1, oC q1) (oA q2, oC q2)).toArray) rfl rfl (fun w => by kernel_rfl)) ?_
  refine LO_s rfl rfl rfl (S_storeW 1 rfl rfl rfl rfl rfl (szd sz24o (by kernel_rfl)) (all_one (by kernel_rfl)) (by kernel_rfl) ⟨(Pk.of_sub (List.Sublist.cons_cons _ (List.nil_sublist _))), (fun f hf => List.mem_append_left _ (List.mem_append_left _ (hf))), ?_⟩)
  refine LO_nil ?_
  change J _ _ _ _
  refine J_ret ?_
  change Kret _ _ _ Exit.ret _
  refine ret1 rfl rfl (RV_c 1 rfl rfl Try.underlying24 rfl (szd sz24o (by kernel_rfl))) ?_
  exact fun w' h => ⟨(oA q1, oC q1), (oA q2, oC q2), rfl, h.fr, (NewF.at h 1 rfl n1).and (NewF.at h 2 rfl n2)⟩

theorem ownSnapP_w (x : Sn) (a1 a2 : Sp) (w : World) (f1 : FA w (clA x.2.2.1 a1 a2)) (hB : SzC x.2.2.1) :
    Calls Try.prog 43 #[.agg (snX x a1 a2).toArray] w fun e w' => ∃ s1 s2 : Sp, e = .returned (.agg (snX x s1 s2).toArray) ∧ Fr [] w w' ∧ NewF w w' (clT 3 x.2.2.1 s1 s2) := by
  refine calls_of (args := [.agg (snX x a1 a2).toArray]) ([]) ([]) ([clA x.2.2.1 a1 a2]) Try.func43 rfl rfl (okFW (.cons f1 .nil)) ?_
  refine J_seq ?_
  refine J_region ?_
  refine L_box rfl rfl rfl rfl rfl (fun b0 => ?_)
  refine L_alloc rfl rfl rfl rfl z26o (fun b1 => ?_)
  refine L_nil ?_
  change J _ _ _ _
  refine J_seq ?_
  refine J_region ?_
  refine L_v rfl rfl rfl (V_fieldAddr rfl rfl Try.underlying26 rfl sz24o rfl) ?_
  refine L_v rfl rfl rfl (V_loadT 0 (vs := clX x.2.2.1 a1 a2) rfl rfl rfl Try.underlying24 rfl sz24o (by kernel_rfl) (by kernel_rfl)) ?_
  refine L_call rfl rfl rfl rfl tx60o (fun w1 hw => (ownCouncilP_w x.2.2.1 a1 a2 w1 (hw.fa 0 rfl) hB).mono ?_)
  rintro e w' ⟨s1, s2, rfl, hfr, hn1⟩
  have n1 : ∀ k, (_ : Fact).fp k → w.heap.size ≤ k := fun k hk => Nat.le_trans hw.fr.size (hn1.new k hk)
  refine ⟨_, _, _, rfl, hw.newN hfr hn1, rfl, ?_⟩
  refine L_v rfl rfl rfl (V_fieldAddr rfl rfl Try.underlying26 rfl sz24o rfl) ?_
  refine L_storeT 0 (l' := snX x s1 s2) rfl rfl rfl rfl rfl rfl (szd sz24o (by kernel_rfl)) (all_one (by kernel_rfl)) (Nat.le_of_ble_eq_true (by kernel_rfl)) (by kernel_rfl) ?_
  refine L_nil ?_
  change J _ _ _ _
  refine J_seq ?_
  refine J_region ?_
  refine L_v rfl rfl rfl (V_loadT 0 (vs := snX x s1 s2) rfl rfl rfl Try.underlying26 rfl sz26o (by kernel_rfl) (by kernel_rfl)) ?_
  refine L_storeW 1 rfl rfl rfl rfl rfl rfl (szd sz26o (by kernel_rfl)) (all_one (by kernel_rfl)) (by kernel_rfl) ?_
  refine L_nil ?_
  change J _ _ _ _
  refine J_ret ?_
  change Kret _ _ _ Exit.ret _
  refine ret1 rfl rfl (RV_c 1 rfl rfl Try.underlying26 rfl (szd sz26o (by kernel_rfl))) ?_
  exact fun w' h => ⟨s1, s2, rfl, h.fr, NewF.at h 1 rfl n1⟩

set_option maxHeartbeats 1000000 in
theorem ownEntries_w (es : List EnV) (s : Sp) (w : World) (f1 : FA w (esA es s)) (hE : ∀ p ∈ es, SzC p.1.2.2.2.2) (hB : es.length ≤ 549755813888) :
    Calls Try.prog 44 #[.slice s.1 es.length s.2] w fun e w' => ∃ (q : OwnR) (gs : List EnV), e = .returned (ownV q es.length) ∧ gs.map Prod.fst = es.map Prod.fst ∧ Fr [] w w' ∧ OwnC 43 q es.length (gs.map enW).flatten ∧ NewL w w' (ownM 39 q (gs.map enW).flatten) [allF (gs.map (enT 3))] := by
  refine calls_of (args := [.slice s.1 es.length s.2]) ([]) ([]) ([esA es s]) Try.func44 rfl rfl (okFW (.cons f1 .nil)) ?_
  refine J_seq ?_
  refine J_region ?_
  refine L_v rfl rfl rfl (V_assign rfl rfl) ?_
  refine L_nil ?_
  change J _ _ _ _
  refine J_seq ?_
  refine J_region ?_
  refine L_v rfl rfl rfl (V_move rfl rfl) ?_
  refine L_call rfl rfl rfl rfl tx61o (fun w1 hw => (cloneE_w s es w1 (hw.fa 0 rfl).l hB).mono ?_)
  rintro e w' ⟨q, rfl, hfr, hq0⟩
  have hq1 := hq0.own
  refine ⟨_, _, _, rfl, hw.addOwn hfr hq0, rfl, ?_⟩
  refine L_v rfl rfl rfl (V_assign rfl rfl) ?_
  refine L_nil ?_
  change J _ _ _ _
  rcases q with _ | ⟨g, c, r⟩
  ·
    skip
    obtain ⟨h01, h02⟩ := hq1
    obtain rfl : es = [] := List.eq_nil_of_length_eq_zero h01
    refine J_seq ?_
    refine J_seq ?_
    refine J_region ?_
    refine L_v rfl rfl rfl (V_move rfl rfl) ?_
    refine L_v rfl rfl rfl (V_len rfl rfl Try.underlying27 rfl) ?_
    refine L_v rfl rfl rfl (V_move rfl rfl) ?_
    refine L_nil ?_
    change J _ _ _ _
    refine J_block ?_
    refine J_loop (X := Unit) (fun _ => { env := [(0, .slice none 0 0), (7, .int .i64 0), (8, .int .i64 0)], mem := [], facts := [] }) (fun _ => True) (fun _ => 0) () trivial ⟨⟨rfl, rfl, rfl, trivial⟩, List.nil_sublist _, (fun f hf => by cases hf), rfl⟩ ?_
    rintro _ _
    refine J_seq ?_
    refine J_region ?_
    refine L_v rfl rfl rfl (V_lss rfl rfl rfl (by first | exact decide_eq_true (by omega) | exact decide_eq_false (by omega) | rfl)) ?_
    refine L_nil ?_
    change J _ _ _ _
    refine J_seq ?_
    refine J_false rfl ?_
    refine J_exit ?_
    change J _ _ _ _
    refine J_seq ?_
    refine J_region ?_
    refine L_v rfl rfl rfl (V_move rfl rfl) ?_
    refine L_v rfl rfl rfl (V_assign rfl rfl) ?_
    refine L_nil ?_
    change J _ _ _ _
    refine J_ret ?_
    change Kret _ _ _ Exit.ret _
    refine ret1 rfl rfl (RV_t rfl) ?_
    exact fun w' h => ⟨none, [], rfl, rfl, h.fr, ⟨rfl, rfl⟩, NewL.all (gs := []) (NewL.of h rfl (List.nil_sublist _) (fun f hf => by cases hf) (fun f hf => by cases hf))⟩
  ·
    refine J_seq ?_
    refine J_seq ?_
    refine J_region ?_
    refine L_v rfl rfl rfl (V_move rfl rfl) ?_
    refine L_v rfl rfl rfl (V_len rfl rfl Try.underlying27 rfl) ?_
    refine L_v rfl rfl rfl (V_move rfl rfl) ?_
    refine L_nil ?_
    change J _ _ _ _
    refine J_block ?_
    refine J_loop (X := Nat × List EnV) (fun x => { env := [(0, .slice (some ⟨g, 0, none⟩) es.length c), (7, .int .i64 (es.length : Int)), (8, .int .i64 (x.1 : Int))], mem := [(g, row 39 (cut es x.2 r x.1))], facts := [esA es s] ++ x.2.map (enT 3) }) (fun x => x.1 ≤ es.length ∧ x.2.length = x.1 ∧ x.2.map Prod.fst = (es.take x.1).map Prod.fst ∧ ∀ f ∈ x.2.map (enT 3), ∀ k, f.fp k → w.heap.size ≤ k) (fun x => es.length - x.1) (0, []) ⟨Nat.zero_le _, rfl, rfl, fun f hf => by cases hf⟩ ⟨⟨rfl, rfl, rfl, trivial⟩, List.Sublist.refl _, fun f hf => hf, rfl⟩ ?_
    rintro ⟨i, acc⟩ ⟨hin, ha, hac, hfE⟩
    simp only at hin ha hac hfE ⊢
    refine J_seq ?_
    refine J_region ?_
    refine L_v rfl rfl rfl (V_lss rfl rfl rfl (by first | exact decide_eq_true (by omega) | exact decide_eq_false (by omega) | rfl)) ?_
    refine L_nil ?_
    change J _ _ _ _
    refine J_seq ?_
    refine J_cond rfl (fun h1 => ?_) (fun h1 => ?_)
    ·
      first | (have h1 := of_decide_eq_true h1) | (have h1 := of_decide_eq_false h1) | skip
      have hi : i < es.length := by omega
      refine J_skip ?_
      change J _ _ _ _
      refine J_seq ?_
      refine J_block ?_
      refine J_seq ?_
      refine J_region ?_
      refine L_v rfl rfl rfl (V_move rfl rfl) ?_
      refine L_v rfl rfl rfl (V_assign rfl rfl) ?_
      refine L_nil ?_
      change J _ _ _ _
      refine J_region ?_
      refine L_v rfl rfl rfl (V_move rfl rfl) ?_
      refine L_v rfl rfl rfl (V_move rfl rfl) ?_
      refine L_v rfl rfl rfl (V_move rfl rfl) ?_
      refine L_v rfl rfl rfl (V_move rfl rfl) ?_
      refine L_v rfl rfl rfl (V_indexSl rfl rfl rfl Try.underlying27 sz39o (by omega) (by omega) rfl) ?_
      refine L_v rfl rfl rfl (V_fieldAddr rfl rfl Try.underlying39 rfl sz24o rfl) ?_
      refine L_v rfl rfl rfl (V_loadP 0 (vs := clX (es.getD i env0).1.2.2.2.2 (es.getD i env0).2.1 (es.getD i env0).2.2) rfl rfl rfl Try.underlying24 rfl (szd sz24o (by kernel_rfl)) (fun j hj => (by have h9 := cut_cell (r := r) ha hi (show 41 + j < 43 by have : j < 2 := hj; omega); rw [Nat.add_assoc]; refine h9.trans ?_; have : j < 2 := hj; rcases (show j = 0 ∨ j = 1 by omega) with rfl | rfl <;> rfl))) ?_
      refine L_call rfl rfl rfl rfl tx60o (fun w1 hw => (ownCouncilP_w (es.getD i env0).1.2.2.2.2 _ _ w1 ((hw.fa 0 rfl).r.of (List.mem_map.2 ⟨_, getD_mem hi, rfl⟩)) (hE _ (getD_mem hi))).mono ?_)
      rintro e w' ⟨s1, s2, rfl, hfr, hn1⟩
      have n1 : ∀ k, (_ : Fact).fp k → w.heap.size ≤ k := fun k hk => Nat.le_trans hw.fr.size (hn1.new k hk)
      refine ⟨_, _, _, rfl, hw.newN hfr hn1, rfl, ?_⟩
      refine L_v rfl rfl rfl (V_indexSl rfl rfl rfl Try.underlying27 sz39o (by omega) (by omega) rfl) ?_
      refine L_v rfl rfl rfl (V_fieldAddr rfl rfl Try.underlying39 rfl sz24o rfl) ?_
      refine L_storeT 0 (l' := cut es (acc ++ [((es.getD i env0).1, s1, s2)]) r (i + 1)) rfl rfl rfl rfl rfl rfl (szd sz24o (by kernel_rfl)) (all_one (by kernel_rfl)) (cut_len ha hi) (cut_set ha hi) ?_
      refine L_nil ?_
      change J _ _ _ _
      refine J_region ?_
      refine L_v rfl rfl rfl (V_add rfl rfl rfl (by first | exact Go.IntWalk.i64_in _ (by omega) | rfl)) ?_
      refine L_v rfl rfl rfl (V_move rfl rfl) ?_
      refine L_nil ?_
      exact ⟨(i + 1, acc ++ [((es.getD i env0).1, s1, s2)]), ⟨by show i + 1 ≤ es.length; omega, by show (acc ++ [_]).length = i + 1; rw [List.length_append, ha]; rfl, acc_fst hi hac, fun f hf => by
        rw [List.map_append] at hf
        rcases List.mem_append.1 hf with hf | hf
        · exact hfE f hf
        · obtain rfl := List.mem_singleton.1 hf
          exact n1⟩, by show es.length - (i + 1) < es.length - i; omega, ⟨rfl, rfl, rfl, trivial⟩, List.Sublist.refl _, factsT_app (f0 := [esA es s]), rfl⟩
    ·
      first | (have h1 := of_decide_eq_true h1) | (have h1 := of_decide_eq_false h1) | skip
      obtain rfl : i = es.length := by omega
      refine J_exit ?_
      change J _ _ _ _
      refine J_seq ?_
      refine J_region ?_
      refine L_v rfl rfl rfl (V_move rfl rfl) ?_
      refine L_v rfl rfl rfl (V_assign rfl rfl) ?_
      refine L_nil ?_
      change J _ _ _ _
      refine J_ret ?_
      change Kret _ _ _ Exit.ret _
      refine ret1 rfl rfl (RV_t rfl) ?_
      rw [List.take_length] at hac
      have hal : acc.length = es.length := by omega
      have e9 : cut es acc r es.length = (acc.map enW).flatten ++ r := by unfold cut; rw [List.drop_length, List.append_nil]
      exact fun w' h => ⟨some (g, c, r), acc, rfl, hac, h.fr, ⟨by rw [fl_len, hal], hq1.2.1, hq1.2.2⟩, NewL.all (gs := []) (NewL.of h rfl (by show List.Sublist [(g, row 39 ((acc.map enW).flatten ++ r))] [(g, row 39 (cut es acc r es.length))]; rw [e9]; exact List.Sublist.refl _) (fun f hf => List.mem_append_right _ hf) hfE)⟩

end Go.Proofs.Ytcdenfkbhefbbaa
