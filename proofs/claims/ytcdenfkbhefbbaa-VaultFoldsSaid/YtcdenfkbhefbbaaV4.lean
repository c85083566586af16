/- May a record be? -/
import Derived.Test.YtcdenfkbhefbbaaV1
set_option linter.unusedVariables false
set_option linter.unusedSimpArgs false
set_option maxRecDepth 100000
namespace Go.Proofs.Ytcdenfkbhefbbaa
open Go.Sx
theorem may_iff (k t v : Int) (e : En) (i : Int) (x : Sn) (g : Sg) : MayR (k, t, v, e, i, x, g) ↔ (k = 1 ∧ e = en0 ∧ i = 0 ∧ x = sn0 ∧ g = sg0) ∨ (k = 2 ∧ t = 0 ∧ v = 0 ∧ i = 0 ∧ x = sn0 ∧ g = sg0) ∨ (k = 3 ∧ t = 0 ∧ v = 0 ∧ e = en0 ∧ x = sn0 ∧ g = sg0) ∨ (k = 4 ∧ t = 0 ∧ v = 0 ∧ e = en0 ∧ i = 0 ∧ g = sg0) ∨ (k = 5 ∧ t = 0 ∧ v = 0 ∧ e = en0 ∧ i = 0 ∧ x = sn0) := by
  simp only [MayR, tR, eR, cR, nR, gR, Prod.mk.injEq]
  constructor
  · rintro (⟨t', v', h⟩ | ⟨t', h⟩ | ⟨t', h⟩ | ⟨t', h⟩ | ⟨t', h⟩)
    · exact .inl ⟨h.1, h.2.2.2⟩
    · exact .inr (.inl ⟨h.1, h.2.1, h.2.2.1, h.2.2.2.2⟩)
    · exact .inr (.inr (.inl ⟨h.1, h.2.1, h.2.2.1, h.2.2.2.1, h.2.2.2.2.2⟩))
    · exact .inr (.inr (.inr (.inl ⟨h.1, h.2.1, h.2.2.1, h.2.2.2.1, h.2.2.2.2.1, h.2.2.2.2.2.2⟩)))
    · exact .inr (.inr (.inr (.inr ⟨h.1, h.2.1, h.2.2.1, h.2.2.2.1, h.2.2.2.2.1, h.2.2.2.2.2.1⟩)))
  · rintro (⟨h1, h2⟩ | ⟨h1, h2, h3, h4⟩ | ⟨h1, h2, h3, h4, h5⟩ | ⟨h1, h2, h3, h4, h5, h6⟩ | ⟨h1, h2, h3, h4, h5, h6⟩)
    · exact .inl ⟨t, v, h1, rfl, rfl, h2⟩
    · exact .inr (.inl ⟨e, h1, h2, h3, rfl, h4⟩)
    · exact .inr (.inr (.inl ⟨i, h1, h2, h3, h4, rfl, h5⟩))
    · exact .inr (.inr (.inr (.inl ⟨x, h1, h2, h3, h4, h5, rfl, h6⟩)))
    · exact .inr (.inr (.inr (.inr ⟨g, h1, h2, h3, h4, h5, h6, rfl⟩)))
theorem may_r (r : Rec) : MayR r ↔ (r.1 = 1 ∧ r.2.2.2.1 = en0 ∧ r.2.2.2.2.1 = 0 ∧ r.2.2.2.2.2.1 = sn0 ∧ r.2.2.2.2.2.2 = sg0) ∨ (r.1 = 2 ∧ r.2.1 = 0 ∧ r.2.2.1 = 0 ∧ r.2.2.2.2.1 = 0 ∧ r.2.2.2.2.2.1 = sn0 ∧ r.2.2.2.2.2.2 = sg0) ∨ (r.1 = 3 ∧ r.2.1 = 0 ∧ r.2.2.1 = 0 ∧ r.2.2.2.1 = en0 ∧ r.2.2.2.2.2.1 = sn0 ∧ r.2.2.2.2.2.2 = sg0) ∨ (r.1 = 4 ∧ r.2.1 = 0 ∧ r.2.2.1 = 0 ∧ r.2.2.2.1 = en0 ∧ r.2.2.2.2.1 = 0 ∧ r.2.2.2.2.2.2 = sg0) ∨ (r.1 = 5 ∧ r.2.1 = 0 ∧ r.2.2.1 = 0 ∧ r.2.2.2.1 = en0 ∧ r.2.2.2.2.1 = 0 ∧ r.2.2.2.2.2.1 = sn0) := may_iff _ _ _ _ _ _ _
instance (r : Rec) : Decidable (MayR r) := decidable_of_iff _ (may_iff r.1 r.2.1 r.2.2.1 r.2.2.2.1 r.2.2.2.2.1 r.2.2.2.2.2.1 r.2.2.2.2.2.2).symm
abbrev SzR (r : Rec) : Prop := (r.2.2.2.1.2.2.2.2.1.length ≤ 17592186044416 ∧ r.2.2.2.1.2.2.2.2.2.length ≤ 17592186044416) ∧ (r.2.2.2.2.2.1.2.2.1.1.length ≤ 17592186044416 ∧ r.2.2.2.2.2.1.2.2.1.2.length ≤ 17592186044416)
theorem sz3r : (Try.prog.info? 3).map (·.size) = some 1 := by kernel_rfl
theorem sz26r : (Try.prog.info? 26).map (·.size) = some 5 := by kernel_rfl
theorem sz31r : (Try.prog.info? 31).map (·.size) = some 1 := by kernel_rfl
theorem sz39r : (Try.prog.info? 39).map (·.size) = some 43 := by kernel_rfl
theorem sz43r : (Try.prog.info? 43).map (·.size) = some 97 := by kernel_rfl
theorem tx19r : Txt Try.prog 19 := txt_of Try.func19 rfl (by kernel_rfl)
theorem tx62r : Txt Try.prog 62 := txt_of Try.func62 rfl (by kernel_rfl)

set_option maxHeartbeats 2000000 in
theorem may_w (r : Rec) (a b c d : Sp) (w : World) (hB : SzR r) :
    Calls Try.prog 46 #[.agg (recX r a b c d).toArray] w fun e w' => e = .returned (.bool (decide (MayR r))) ∧ Fr [] w w' := by
  refine calls_of (args := [.agg (recX r a b c d).toArray]) ([]) ([]) ([]) Try.func46 rfl rfl (okW0 _ _ _ _) ?_
  refine J_seq ?_
  refine J_region ?_
  refine L_box rfl rfl rfl rfl rfl (fun b0 => ?_)
  refine L_v rfl rfl rfl (V_assign rfl rfl) ?_
  refine L_nil ?_
  change J _ _ _ _
  refine J_seq ?_
  refine J_regionQ rfl (by kernel_rfl) ?_
  refine LQ_v rfl rfl rfl (V_fieldAddr rfl rfl Try.underlying45 rfl sz3r rfl) ?_
  refine LQ_v rfl rfl rfl (V_load1 0 rfl rfl rfl Try.underlying3 rfl (by rfl)) ?_
  refine LQ_v rfl rfl rfl (V_eql rfl rfl rfl (by first | exact decide_eq_true (by omega) | exact decide_eq_false (by omega) | rfl)) ?_
  refine LQ_v rfl rfl rfl (V_move rfl rfl) ?_
  apply LQ_and 3 11 15
  · rfl
  · rfl
  · rfl
  · rfl
  · rfl
  · rfl
  · rfl
  · kernel_rfl
  · intro hb1 _ _ hk1
    refine LQ_wv rfl rfl rfl rfl rfl rfl (V_fieldAddr rfl rfl Try.underlying45 rfl sz3r rfl) ?_
    refine LQ_wv rfl rfl rfl rfl rfl rfl (V_load1 0 rfl rfl rfl Try.underlying3 rfl (by rfl)) ?_
    refine LQ_wv rfl rfl rfl rfl rfl rfl (V_eql rfl rfl rfl (by first | exact decide_eq_true (by omega) | exact decide_eq_false (by omega) | rfl)) ?_
    exact hk1 _ ⟨rfl, rfl, ext_cut 3 (by kernel_rfl) (by kernel_rfl)⟩
  refine LQ_v rfl rfl rfl (V_fieldAddr rfl rfl Try.underlying45 rfl sz39r rfl) ?_
  refine LQ_v rfl rfl rfl (V_loadT 0 (vs := enX r.2.2.2.1 a b) rfl rfl rfl Try.underlying39 rfl sz39r (by kernel_rfl) (by kernel_rfl)) ?_
  refine LQ_callV rfl rfl rfl rfl rfl rfl tx62r (fun w1 hw => noEntry_w _ a b w1 hB.1) ?_
  refine LQ_v rfl rfl rfl (V_fieldAddr rfl rfl Try.underlying45 rfl sz3r rfl) ?_
  refine LQ_v rfl rfl rfl (V_load1 0 rfl rfl rfl Try.underlying3 rfl (by rfl)) ?_
  refine LQ_v rfl rfl rfl (V_eql rfl rfl rfl (by first | exact decide_eq_true (by omega) | exact decide_eq_false (by omega) | rfl)) ?_
  refine LQ_v rfl rfl rfl (V_fieldAddr rfl rfl Try.underlying45 rfl sz26r rfl) ?_
  refine LQ_v rfl rfl rfl (V_loadT 0 (vs := snX r.2.2.2.2.2.1 c d) rfl rfl rfl Try.underlying26 rfl sz26r (by kernel_rfl) (by kernel_rfl)) ?_
  refine LQ_callV rfl rfl rfl rfl rfl rfl tx19r (fun w1 hw => noSnap_w _ c d w1 hB.2) ?_
  refine LQ_v rfl rfl rfl (V_fieldAddr rfl rfl Try.underlying45 rfl sz43r rfl) ?_
  refine LQ_v rfl rfl rfl (V_loadT 0 (vs := sgV r.2.2.2.2.2.2) rfl rfl rfl Try.underlying43 rfl sz43r (by kernel_rfl) (by kernel_rfl)) ?_
  refine LQ_v rfl rfl rfl (V_buildE (v := .agg (sgV sg0).toArray) rfl rfl (fun w => by kernel_rfl)) ?_
  refine LQ_v rfl rfl rfl (V_eqAgg rfl rfl rfl (by kernel_rfl : Try.prog.eqGuardType Try.prog.depth 43 = false) (fun w => eqSgDO _ _ w) rfl) ?_
  refine LQ_v rfl rfl rfl (V_assign rfl rfl) ?_
  refine LQ_v rfl rfl rfl (V_assign rfl rfl) ?_
  refine LQ_v rfl rfl rfl (V_assign rfl rfl) ?_
  refine LQ_v rfl rfl rfl (V_assign rfl rfl) ?_
  refine LQ_v rfl rfl rfl (V_assign rfl rfl) ?_
  refine LQ_nil ?_
  change J _ _ _ _
  refine J_seq ?_
  refine J_seq ?_
  refine J_region ?_
  refine L_v rfl rfl rfl (V_fieldAddr rfl rfl Try.underlying45 rfl sz31r rfl) ?_
  refine L_v rfl rfl rfl (V_load1 0 rfl rfl rfl Try.underlying31 rfl (by rfl)) ?_
  refine L_nil ?_
  change J _ _ _ _
  refine J_block ?_
  refine J_seq ?_
  refine J_region ?_
  refine L_v rfl rfl rfl (V_eql rfl rfl rfl (by first | exact decide_eq_true (by omega) | exact decide_eq_false (by omega) | rfl)) ?_
  refine L_v rfl rfl rfl (V_assign rfl rfl) ?_
  refine L_nil ?_
  change J _ _ _ _
  refine J_cond rfl (fun h2 => ?_) (fun h2 => ?_)
  ·
    first | (have h2 := of_decide_eq_true h2) | (have h2 := of_decide_eq_false h2) | skip
    refine J_region ?_
    refine L_v rfl rfl rfl (V_assign rfl rfl) ?_
    refine L_nil ?_
    change J _ _ _ _
    refine J_seq ?_
    refine J_region ?_
    refine L_v rfl rfl rfl (V_move rfl rfl) ?_
    refine L_v rfl rfl rfl (V_move rfl rfl) ?_
    apply L_and 1 42 44
    · rfl
    · rfl
    · rfl
    · rfl
    · rfl
    · rfl
    · rfl
    · kernel_rfl
    · intro hb3 _ _ hk3
      refine L_wv rfl rfl rfl rfl rfl rfl (V_move rfl rfl) ?_
      exact hk3 _ ⟨rfl, rfl, rfl, rfl, ext_cut 1 (by kernel_rfl) (by kernel_rfl)⟩
    refine L_v rfl rfl rfl (V_move rfl rfl) ?_
    apply L_and 1 45 47
    · rfl
    · rfl
    · rfl
    · rfl
    · rfl
    · rfl
    · rfl
    · kernel_rfl
    · intro hb4 _ _ hk4
      refine L_wv rfl rfl rfl rfl rfl rfl (V_move rfl rfl) ?_
      exact hk4 _ ⟨rfl, rfl, rfl, rfl, ext_cut 1 (by kernel_rfl) (by kernel_rfl)⟩
    refine L_v rfl rfl rfl (V_move rfl rfl) ?_
    apply L_and 1 48 50
    · rfl
    · rfl
    · rfl
    · rfl
    · rfl
    · rfl
    · rfl
    · kernel_rfl
    · intro hb5 _ _ hk5
      refine L_wv rfl rfl rfl rfl rfl rfl (V_move rfl rfl) ?_
      exact hk5 _ ⟨rfl, rfl, rfl, rfl, ext_cut 1 (by kernel_rfl) (by kernel_rfl)⟩
    refine L_v rfl rfl rfl (V_move rfl rfl) ?_
    apply L_and 1 51 53
    · rfl
    · rfl
    · rfl
    · rfl
    · rfl
    · rfl
    · rfl
    · kernel_rfl
    · intro hb6 _ _ hk6
      refine L_wv rfl rfl rfl rfl rfl rfl (V_move rfl rfl) ?_
      exact hk6 _ ⟨rfl, rfl, rfl, rfl, ext_cut 1 (by kernel_rfl) (by kernel_rfl)⟩
    refine L_v rfl rfl rfl (V_assign rfl rfl) ?_
    refine L_nil ?_
    change J _ _ _ _
    refine J_ret ?_
    change Kret _ _ _ Exit.ret _
    refine ret1 rfl rfl (RV_t rfl) ?_
    exact fun w' h => ⟨congrArg (fun b => Ending.returned (Value.bool b)) (Bool.eq_iff_iff.2 (by simp only [Bool.and_eq_true, Bool.or_eq_true, decide_eq_true_eq, beq_iff_eq]; rw [may_r]; simp only [h2]; simp [and_assoc])), h.fr⟩
  ·
    first | (have h2 := of_decide_eq_true h2) | (have h2 := of_decide_eq_false h2) | skip
    refine J_seq ?_
    refine J_region ?_
    refine L_v rfl rfl rfl (V_eql rfl rfl rfl (by first | exact decide_eq_true (by omega) | exact decide_eq_false (by omega) | rfl)) ?_
    refine L_v rfl rfl rfl (V_assign rfl rfl) ?_
    refine L_nil ?_
    change J _ _ _ _
    refine J_cond rfl (fun h3 => ?_) (fun h3 => ?_)
    ·
      first | (have h3 := of_decide_eq_true h3) | (have h3 := of_decide_eq_false h3) | skip
      refine J_region ?_
      refine L_v rfl rfl rfl (V_assign rfl rfl) ?_
      refine L_nil ?_
      change J _ _ _ _
      refine J_seq ?_
      refine J_region ?_
      refine L_v rfl rfl rfl (V_move rfl rfl) ?_
      refine L_v rfl rfl rfl (V_move rfl rfl) ?_
      apply L_and 1 42 44
      · rfl
      · rfl
      · rfl
      · rfl
      · rfl
      · rfl
      · rfl
      · kernel_rfl
      · intro hb4 _ _ hk4
        refine L_wv rfl rfl rfl rfl rfl rfl (V_move rfl rfl) ?_
        exact hk4 _ ⟨rfl, rfl, rfl, rfl, ext_cut 1 (by kernel_rfl) (by kernel_rfl)⟩
      refine L_v rfl rfl rfl (V_move rfl rfl) ?_
      apply L_and 1 45 47
      · rfl
      · rfl
      · rfl
      · rfl
      · rfl
      · rfl
      · rfl
      · kernel_rfl
      · intro hb5 _ _ hk5
        refine L_wv rfl rfl rfl rfl rfl rfl (V_move rfl rfl) ?_
        exact hk5 _ ⟨rfl, rfl, rfl, rfl, ext_cut 1 (by kernel_rfl) (by kernel_rfl)⟩
      refine L_v rfl rfl rfl (V_move rfl rfl) ?_
      apply L_and 1 48 50
      · rfl
      · rfl
      · rfl
      · rfl
      · rfl
      · rfl
      · rfl
      · kernel_rfl
      · intro hb6 _ _ hk6
        refine L_wv rfl rfl rfl rfl rfl rfl (V_move rfl rfl) ?_
        exact hk6 _ ⟨rfl, rfl, rfl, rfl, ext_cut 1 (by kernel_rfl) (by kernel_rfl)⟩
      refine L_v rfl rfl rfl (V_move rfl rfl) ?_
      apply L_and 1 51 53
      · rfl
      · rfl
      · rfl
      · rfl
      · rfl
      · rfl
      · rfl
      · kernel_rfl
      · intro hb7 _ _ hk7
        refine L_wv rfl rfl rfl rfl rfl rfl (V_move rfl rfl) ?_
        exact hk7 _ ⟨rfl, rfl, rfl, rfl, ext_cut 1 (by kernel_rfl) (by kernel_rfl)⟩
      refine L_v rfl rfl rfl (V_assign rfl rfl) ?_
      refine L_nil ?_
      change J _ _ _ _
      refine J_ret ?_
      change Kret _ _ _ Exit.ret _
      refine ret1 rfl rfl (RV_t rfl) ?_
      exact fun w' h => ⟨congrArg (fun b => Ending.returned (Value.bool b)) (Bool.eq_iff_iff.2 (by simp only [Bool.and_eq_true, Bool.or_eq_true, decide_eq_true_eq, beq_iff_eq]; rw [may_r]; simp only [h2, h3]; simp [and_assoc])), h.fr⟩
    ·
      first | (have h3 := of_decide_eq_true h3) | (have h3 := of_decide_eq_false h3) | skip
      refine J_seq ?_
      refine J_region ?_
      refine L_v rfl rfl rfl (V_eql rfl rfl rfl (by first | exact decide_eq_true (by omega) | exact decide_eq_false (by omega) | rfl)) ?_
      refine L_v rfl rfl rfl (V_assign rfl rfl) ?_
      refine L_nil ?_
      change J _ _ _ _
      refine J_cond rfl (fun h4 => ?_) (fun h4 => ?_)
      ·
        first | (have h4 := of_decide_eq_true h4) | (have h4 := of_decide_eq_false h4) | skip
        refine J_region ?_
        refine L_v rfl rfl rfl (V_assign rfl rfl) ?_
        refine L_nil ?_
        change J _ _ _ _
        refine J_seq ?_
        refine J_region ?_
        refine L_v rfl rfl rfl (V_move rfl rfl) ?_
        refine L_v rfl rfl rfl (V_move rfl rfl) ?_
        apply L_and 1 42 44
        · rfl
        · rfl
        · rfl
        · rfl
        · rfl
        · rfl
        · rfl
        · kernel_rfl
        · intro hb5 _ _ hk5
          refine L_wv rfl rfl rfl rfl rfl rfl (V_move rfl rfl) ?_
          exact hk5 _ ⟨rfl, rfl, rfl, rfl, ext_cut 1 (by kernel_rfl) (by kernel_rfl)⟩
        refine L_v rfl rfl rfl (V_move rfl rfl) ?_
        apply L_and 1 45 47
        · rfl
        · rfl
        · rfl
        · rfl
        · rfl
        · rfl
        · rfl
        · kernel_rfl
        · intro hb6 _ _ hk6
          refine L_wv rfl rfl rfl rfl rfl rfl (V_move rfl rfl) ?_
          exact hk6 _ ⟨rfl, rfl, rfl, rfl, ext_cut 1 (by kernel_rfl) (by kernel_rfl)⟩
        refine L_v rfl rfl rfl (V_move rfl rfl) ?_
        apply L_and 1 48 50
        · rfl
        · rfl
        · rfl
        · rfl
        · rfl
        · rfl
        · rfl
        · kernel_rfl
        · intro hb7 _ _ hk7
          refine L_wv rfl rfl rfl rfl rfl rfl (V_move rfl rfl) ?_
          exact hk7 _ ⟨rfl, rfl, rfl, rfl, ext_cut 1 (by kernel_rfl) (by kernel_rfl)⟩
        refine L_v rfl rfl rfl (V_move rfl rfl) ?_
        apply L_and 1 51 53
        · rfl
        · rfl
        · rfl
        · rfl
        · rfl
        · rfl
        · rfl
        · kernel_rfl
        · intro hb8 _ _ hk8
          refine L_wv rfl rfl rfl rfl rfl rfl (V_move rfl rfl) ?_
          exact hk8 _ ⟨rfl, rfl, rfl, rfl, ext_cut 1 (by kernel_rfl) (by kernel_rfl)⟩
        refine L_v rfl rfl rfl (V_assign rfl rfl) ?_
        refine L_nil ?_
        change J _ _ _ _
        refine J_ret ?_
        change Kret _ _ _ Exit.ret _
        refine ret1 rfl rfl (RV_t rfl) ?_
        exact fun w' h => ⟨congrArg (fun b => Ending.returned (Value.bool b)) (Bool.eq_iff_iff.2 (by simp only [Bool.and_eq_true, Bool.or_eq_true, decide_eq_true_eq, beq_iff_eq]; rw [may_r]; simp only [h2, h3, h4]; simp [and_assoc])), h.fr⟩
      ·
        first | (have h4 := of_decide_eq_true h4) | (have h4 := of_decide_eq_false h4) | skip
        refine J_seq ?_
        refine J_region ?_
        refine L_v rfl rfl rfl (V_eql rfl rfl rfl (by first | exact decide_eq_true (by omega) | exact decide_eq_false (by omega) | rfl)) ?_
        refine L_v rfl rfl rfl (V_assign rfl rfl) ?_
        refine L_nil ?_
        change J _ _ _ _
        refine J_cond rfl (fun h5 => ?_) (fun h5 => ?_)
        ·
          first | (have h5 := of_decide_eq_true h5) | (have h5 := of_decide_eq_false h5) | skip
          refine J_region ?_
          refine L_v rfl rfl rfl (V_assign rfl rfl) ?_
          refine L_nil ?_
          change J _ _ _ _
          refine J_seq ?_
          refine J_region ?_
          refine L_v rfl rfl rfl (V_move rfl rfl) ?_
          refine L_v rfl rfl rfl (V_move rfl rfl) ?_
          apply L_and 1 42 44
          · rfl
          · rfl
          · rfl
          · rfl
          · rfl
          · rfl
          · rfl
          · kernel_rfl
          · intro hb6 _ _ hk6
            refine L_wv rfl rfl rfl rfl rfl rfl (V_move rfl rfl) ?_
            exact hk6 _ ⟨rfl, rfl, rfl, rfl, ext_cut 1 (by kernel_rfl) (by kernel_rfl)⟩
          refine L_v rfl rfl rfl (V_move rfl rfl) ?_
          apply L_and 1 45 47
          · rfl
          · rfl
          · rfl
          · rfl
          · rfl
          · rfl
          · rfl
          · kernel_rfl
          · intro hb7 _ _ hk7
            refine L_wv rfl rfl rfl rfl rfl rfl (V_move rfl rfl) ?_
            exact hk7 _ ⟨rfl, rfl, rfl, rfl, ext_cut 1 (by kernel_rfl) (by kernel_rfl)⟩
          refine L_v rfl rfl rfl (V_move rfl rfl) ?_
          apply L_and 1 48 50
          · rfl
          · rfl
          · rfl
          · rfl
          · rfl
          · rfl
          · rfl
          · kernel_rfl
          · intro hb8 _ _ hk8
            refine L_wv rfl rfl rfl rfl rfl rfl (V_move rfl rfl) ?_
            exact hk8 _ ⟨rfl, rfl, rfl, rfl, ext_cut 1 (by kernel_rfl) (by kernel_rfl)⟩
          refine L_v rfl rfl rfl (V_move rfl rfl) ?_
          apply L_and 1 51 53
          · rfl
          · rfl
          · rfl
          · rfl
          · rfl
          · rfl
          · rfl
          · kernel_rfl
          · intro hb9 _ _ hk9
            refine L_wv rfl rfl rfl rfl rfl rfl (V_move rfl rfl) ?_
            exact hk9 _ ⟨rfl, rfl, rfl, rfl, ext_cut 1 (by kernel_rfl) (by kernel_rfl)⟩
          refine L_v rfl rfl rfl (V_assign rfl rfl) ?_
          refine L_nil ?_
          change J _ _ _ _
          refine J_ret ?_
          change Kret _ _ _ Exit.ret _
          refine ret1 rfl rfl (RV_t rfl) ?_
          exact fun w' h => ⟨congrArg (fun b => Ending.returned (Value.bool b)) (Bool.eq_iff_iff.2 (by simp only [Bool.and_eq_true, Bool.or_eq_true, decide_eq_true_eq, beq_iff_eq]; rw [may_r]; simp only [h2, h3, h4, h5]; simp [and_assoc])), h.fr⟩
        ·
          first | (have h5 := of_decide_eq_true h5) | (have h5 := of_decide_eq_false h5) | skip
          refine J_seq ?_
          refine J_region ?_
          refine L_v rfl rfl rfl (V_eql rfl rfl rfl (by first | exact decide_eq_true (by omega) | exact decide_eq_false (by omega) | rfl)) ?_
          refine L_v rfl rfl rfl (V_assign rfl rfl) ?_
          refine L_nil ?_
          change J _ _ _ _
          refine J_cond rfl (fun h6 => ?_) (fun h6 => ?_)
          ·
            first | (have h6 := of_decide_eq_true h6) | (have h6 := of_decide_eq_false h6) | skip
            refine J_region ?_
            refine L_v rfl rfl rfl (V_assign rfl rfl) ?_
            refine L_nil ?_
            change J _ _ _ _
            refine J_seq ?_
            refine J_region ?_
            refine L_v rfl rfl rfl (V_move rfl rfl) ?_
            refine L_v rfl rfl rfl (V_move rfl rfl) ?_
            apply L_and 1 42 44
            · rfl
            · rfl
            · rfl
            · rfl
            · rfl
            · rfl
            · rfl
            · kernel_rfl
            · intro hb7 _ _ hk7
              refine L_wv rfl rfl rfl rfl rfl rfl (V_move rfl rfl) ?_
              exact hk7 _ ⟨rfl, rfl, rfl, rfl, ext_cut 1 (by kernel_rfl) (by kernel_rfl)⟩
            refine L_v rfl rfl rfl (V_move rfl rfl) ?_
            apply L_and 1 45 47
            · rfl
            · rfl
            · rfl
            · rfl
            · rfl
            · rfl
            · rfl
            · kernel_rfl
            · intro hb8 _ _ hk8
              refine L_wv rfl rfl rfl rfl rfl rfl (V_move rfl rfl) ?_
              exact hk8 _ ⟨rfl, rfl, rfl, rfl, ext_cut 1 (by kernel_rfl) (by kernel_rfl)⟩
            refine L_v rfl rfl rfl (V_move rfl rfl) ?_
            apply L_and 1 48 50
            · rfl
            · rfl
            · rfl
            · rfl
            · rfl
            · rfl
            · rfl
            · kernel_rfl
            · intro hb9 _ _ hk9
              refine L_wv rfl rfl rfl rfl rfl rfl (V_move rfl rfl) ?_
              exact hk9 _ ⟨rfl, rfl, rfl, rfl, ext_cut 1 (by kernel_rfl) (by kernel_rfl)⟩
            refine L_v rfl rfl rfl (V_move rfl rfl) ?_
            apply L_and 1 51 53
            · rfl
            · rfl
            · rfl
            · rfl
            · rfl
            · rfl
            · rfl
            · kernel_rfl
            · intro hb10 _ _ hk10
              refine L_wv rfl rfl rfl rfl rfl rfl (V_move rfl rfl) ?_
              exact hk10 _ ⟨rfl, rfl, rfl, rfl, ext_cut 1 (by kernel_rfl) (by kernel_rfl)⟩
            refine L_v rfl rfl rfl (V_assign rfl rfl) ?_
            refine L_nil ?_
            change J _ _ _ _
            refine J_ret ?_
            change Kret _ _ _ Exit.ret _
            refine ret1 rfl rfl (RV_t rfl) ?_
            exact fun w' h => ⟨congrArg (fun b => Ending.returned (Value.bool b)) (Bool.eq_iff_iff.2 (by simp only [Bool.and_eq_true, Bool.or_eq_true, decide_eq_true_eq, beq_iff_eq]; rw [may_r]; simp only [h2, h3, h4, h5, h6]; simp [and_assoc])), h.fr⟩
          ·
            first | (have h6 := of_decide_eq_true h6) | (have h6 := of_decide_eq_false h6) | skip
            refine J_seq ?_
            refine J_region ?_
            refine L_v rfl rfl rfl (V_assign rfl rfl) ?_
            refine L_nil ?_
            change J _ _ _ _
            refine J_ret ?_
            change Kret _ _ _ Exit.ret _
            refine ret1 rfl rfl (RV_t rfl) ?_
            exact fun w' h => ⟨congrArg (fun b => Ending.returned (Value.bool b)) (Bool.eq_iff_iff.2 (by simp only [Bool.and_eq_true, Bool.or_eq_true, decide_eq_true_eq, beq_iff_eq]; rw [may_r]; simp only [h2, h3, h4, h5, h6]; simp [and_assoc])), h.fr⟩

end Go.Proofs.Ytcdenfkbhefbbaa
