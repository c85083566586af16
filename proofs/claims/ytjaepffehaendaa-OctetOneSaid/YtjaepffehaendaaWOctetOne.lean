/- What the law comes to. -/
import Derived.Test.YtjaepffehaendaaOctetRead
set_option linter.unusedVariables false
set_option linter.unusedSimpArgs false
set_option maxRecDepth 100000
namespace Go.Proofs.Ytjaepffehaendaa
open Go.Sx
theorem sz5l : (Try.prog.info? 5).map (·.size) = some 1 := by kernel_rfl
theorem tx11l : Txt Try.prog 11 := txt_of Try.func11 rfl (by kernel_rfl)
theorem tx13l : Txt Try.prog 13 := txt_of Try.func13 rfl (by kernel_rfl)
theorem tx15l : Txt Try.prog 15 := txt_of Try.func15 rfl (by kernel_rfl)
theorem tx18l : Txt Try.prog 18 := txt_of Try.func18 rfl (by kernel_rfl)
theorem tx19l : Txt Try.prog 19 := txt_of Try.func19 rfl (by kernel_rfl)
theorem tx21l : Txt Try.prog 21 := txt_of Try.func21 rfl (by kernel_rfl)
theorem tx25l : Txt Try.prog 25 := txt_of Try.func25 rfl (by kernel_rfl)
theorem tx26l : Txt Try.prog 26 := txt_of Try.func26 rfl (by kernel_rfl)

theorem OctetOne_a (a : Option Addr) (n c : Nat) (l : List Int) (w : World) (hu : SlB w (.slice a n c) l) (hby : Byt l) (hcn : n ≤ c) :
    Calls Try.prog 7 #[.slice a n c] w fun e w' => e = .returned (.bool true) ∧ Fr [] w w' := by
  have hl := hu.size
  refine calls_of (args := [.slice a n c]) ([]) ([]) ([]) Try.func7 rfl rfl (okW0 _ _ _ _) ?_
  refine J_seq ?_
  refine J_region ?_
  refine L_v rfl rfl rfl (V_assign rfl rfl) ?_
  refine L_nil ?_
  change J _ _ _ _
  refine J_seq ?_
  refine J_seq ?_
  refine J_region ?_
  refine L_v rfl rfl rfl (V_move rfl rfl) ?_
  refine L_v rfl rfl rfl (V_len rfl rfl Try.underlying22 rfl) ?_
  refine L_v rfl rfl rfl (V_gtr rfl rfl rfl (by first | exact decide_eq_true (by omega) | exact decide_eq_false (by omega) | rfl)) ?_
  refine L_nil ?_
  change J _ _ _ _
  refine J_cond rfl (fun h1 => ?_) (fun h1 => ?_)
  ·
    first | (have h1 := of_decide_eq_true h1) | (have h1 := of_decide_eq_false h1) | skip
    refine J_seq ?_
    refine J_region ?_
    refine L_v rfl rfl rfl (V_assign rfl rfl) ?_
    refine L_nil ?_
    change J _ _ _ _
    refine J_ret ?_
    change Kret _ _ _ Exit.ret _
    refine ret1 rfl rfl (RV_t rfl) ?_
    exact fun w' h => ⟨rfl, h.fr⟩
  ·
    first | (have h1 := of_decide_eq_true h1) | (have h1 := of_decide_eq_false h1) | skip
    refine J_skip ?_
    change J _ _ _ _
    refine J_seq ?_
    refine J_region ?_
    refine L_v rfl rfl rfl (V_move rfl rfl) ?_
    refine L_call rfl rfl rfl rfl tx18l (fun w hw => (new_w a n c w).mono ?_)
    rintro e w' ⟨b1, rfl, hfr1, hsz1, hb1⟩
    refine ⟨_, _, _, rfl, hw.add hfr1 hb1 hsz1, rfl, ?_⟩
    refine L_v rfl rfl rfl (V_assign rfl rfl) ?_
    refine L_nil ?_
    change J _ _ _ _
    refine J_seq ?_
    refine J_region ?_
    refine L_v rfl rfl rfl (V_move rfl rfl) ?_
    refine L_call rfl rfl rfl rfl tx18l (fun w hw => (new_w a n c w).mono ?_)
    rintro e w' ⟨b2, rfl, hfr2, hsz2, hb2⟩
    refine ⟨_, _, _, rfl, hw.add hfr2 hb2 hsz2, rfl, ?_⟩
    refine L_v rfl rfl rfl (V_assign rfl rfl) ?_
    refine L_nil ?_
    change J _ _ _ _
    refine J_seq ?_
    refine J_seq ?_
    refine J_region ?_
    refine L_v rfl rfl rfl (V_move rfl rfl) ?_
    refine L_v rfl rfl rfl (V_eqP rfl rfl rfl Try.underlying38 rfl) ?_
    refine L_v rfl rfl rfl (V_move rfl rfl) ?_
    refine L_wv rfl rfl rfl rfl rfl rfl (V_move rfl rfl) ?_
    refine L_wv rfl rfl rfl rfl rfl rfl (V_eqP rfl rfl rfl Try.underlying38 rfl) ?_
    first | refine L_v rfl rfl rfl (V_pickT rfl rfl rfl) ?_ | refine L_v rfl rfl rfl (V_pickF rfl rfl rfl) ?_
    refine L_nil ?_
    change J _ _ _ _
    refine J_false rfl ?_
    refine J_skip ?_
    change J _ _ _ _
    refine J_seq ?_
    refine J_region ?_
    refine L_v rfl rfl rfl (V_move rfl rfl) ?_
    refine L_call rfl rfl rfl rfl tx19l (fun w hw => (rcount_w b1 a n c l w (hw.at (i := 0) rfl) (SlB.later hw rfl hu) hby hcn (by omega)).mono ?_)
    rintro e w' ⟨a1, n1, c1, he, hfr1, hb1, hcn1, hsl1⟩
    subst he
    have hz1 := (hsl1 w (SlB.later hw rfl hu)).size
    refine ⟨_, _, _, rfl, hw.set (i := 0) rfl hfr1 hb1, rfl, ?_⟩
    refine L_v rfl rfl rfl (V_move rfl rfl) ?_
    refine L_v rfl rfl rfl (V_extract rfl rfl rfl) ?_
    refine L_v rfl rfl rfl (V_extract rfl rfl rfl) ?_
    refine L_v rfl rfl rfl (V_assign rfl rfl) ?_
    refine L_v rfl rfl rfl (V_assign rfl rfl) ?_
    refine L_nil ?_
    change J _ _ _ _
    refine J_seq ?_
    refine J_seq ?_
    refine J_region ?_
    refine L_v rfl rfl rfl (V_move rfl rfl) ?_
    refine L_v rfl rfl rfl (V_eql rfl rfl rfl (by first | exact decide_eq_true (by omega) | exact decide_eq_false (by omega) | rfl)) ?_
    refine L_nil ?_
    change J _ _ _ _
    refine J_cond rfl (fun h2 => ?_) (fun h2 => ?_)
    ·
      first | (have h2 := of_decide_eq_true h2) | (have h2 := of_decide_eq_false h2) | skip
      obtain ⟨_, hm0, hm1, k1, hk0, hk1, hk2, hk3⟩ | ⟨hk, _, _⟩ := rc_ok hby
      rotate_left
      · exact absurd h2 hk
      have hbk1 := rc_back hby h2 hk3
      rw [hk3, Int.toNat_natCast, List.length_drop] at hz1
      refine J_seq ?_
      refine J_region ?_
      refine L_v rfl rfl rfl (V_move rfl rfl) ?_
      refine L_callB rfl rfl rfl rfl rfl rfl tx11l (fun w hw => putCount_ok none 0 0 [] (rc l).1 w (SlB.nil _ _) (by omega) (Nat.le_refl _) (by omega) (by omega)) (fun g5 r5 c5 hl5 hc5 hr5 => ?_)
      refine L_v rfl rfl rfl (V_move rfl rfl) ?_
      refine L_v rfl rfl rfl (V_extract rfl rfl rfl) ?_
      refine L_v rfl rfl rfl (V_extract rfl rfl rfl) ?_
      refine L_v rfl rfl rfl (V_assign rfl rfl) ?_
      refine L_v rfl rfl rfl (V_assign rfl rfl) ?_
      refine L_nil ?_
      change J _ _ _ _
      refine J_seq ?_
      refine J_regionQ rfl (by kernel_rfl) ?_
      refine LQ_v rfl rfl rfl (V_move rfl rfl) ?_
      refine LQ_v rfl rfl rfl (V_neq rfl rfl rfl (by first | exact decide_eq_true (by omega) | exact decide_eq_false (by omega) | rfl)) ?_
      refine LQ_v rfl rfl rfl (V_move rfl rfl) ?_
      refine LQ_wv rfl rfl rfl rfl rfl rfl (V_move rfl rfl) ?_
      refine LQ_wv rfl rfl rfl rfl rfl rfl (V_str rfl rfl Try.underlying22 Try.underlying5 Try.underlying9 (fun w hw => SlB.of_own hw (i := 2) rfl hl5 _)) ?_
      refine LQ_wv rfl rfl rfl rfl rfl rfl (V_move rfl rfl) ?_
      refine LQ_wv rfl rfl rfl rfl rfl rfl (V_move rfl rfl) ?_
      refine LQ_wv rfl rfl rfl rfl rfl rfl (V_len rfl rfl Try.underlying22 rfl) ?_
      refine LQ_wv rfl rfl rfl rfl rfl rfl (V_move rfl rfl) ?_
      refine LQ_wcallV rfl rfl rfl rfl rfl rfl rfl rfl rfl tx25l (fun w hw => left_w b1 a1 n1 c1 w (hw.at (i := 0) rfl)) ?_
      refine LQ_wv rfl rfl rfl rfl rfl rfl (V_sub rfl rfl rfl (by first | exact Go.IntWalk.i64_in _ (by omega) | rfl)) ?_
      refine LQ_wv rfl rfl rfl rfl rfl rfl (V_slice0 rfl rfl Try.underlying22 sz5l (Bd.at (v := k1) rfl (by omega)) rfl rfl (by first | omega | (simp; omega)) (by first | omega | (simp; omega))) ?_
      refine LQ_wv rfl rfl rfl rfl rfl rfl (V_str rfl rfl Try.underlying22 Try.underlying5 Try.underlying9 (fun w hw => SlB.take (SlB.later hw rfl hu) (by first | omega | (simp; omega)) _)) ?_
      refine LQ_wv rfl rfl rfl rfl rfl rfl (V_neS rfl rfl rfl (decide_eq_false (fun h => h (by first | (rw [hbk1]; rfl) | (rw [hbk2, ba_size, bs_ba hbt2]; rfl))))) ?_
      first | refine LQ_v rfl rfl rfl (V_pickT rfl rfl rfl) ?_ | refine LQ_v rfl rfl rfl (V_pickF rfl rfl rfl) ?_
      refine LQ_nil ?_
      change J _ _ _ _
      refine J_false rfl ?_
      refine J_skip ?_
      change J _ _ _ _
      refine J_seq ?_
      refine J_region ?_
      refine L_v rfl rfl rfl (V_move rfl rfl) ?_
      refine L_call rfl rfl rfl rfl tx21l (fun w hw => (rbytes_w b2 a n c l w (hw.at (i := 1) rfl) (SlB.later hw rfl hu) hby hcn (by omega)).mono ?_)
      rintro e w' ⟨a2, n2, c2, he, hfr2, hb2, hcn2, hsl2⟩
      subst he
      have hz2 := (hsl2 w (SlB.later hw rfl hu)).size
      refine ⟨_, _, _, rfl, hw.set (i := 1) rfl hfr2 hb2, rfl, ?_⟩
      refine L_v rfl rfl rfl (V_move rfl rfl) ?_
      refine L_v rfl rfl rfl (V_extract rfl rfl rfl) ?_
      refine L_v rfl rfl rfl (V_extract rfl rfl rfl) ?_
      refine L_v rfl rfl rfl (V_assign rfl rfl) ?_
      refine L_v rfl rfl rfl (V_assign rfl rfl) ?_
      refine L_nil ?_
      change J _ _ _ _
      refine J_seq ?_
      refine J_seq ?_
      refine J_region ?_
      refine L_v rfl rfl rfl (V_move rfl rfl) ?_
      refine L_v rfl rfl rfl (V_eql rfl rfl rfl (by first | exact decide_eq_true (by omega) | exact decide_eq_false (by omega) | rfl)) ?_
      refine L_nil ?_
      change J _ _ _ _
      refine J_cond rfl (fun h3 => ?_) (fun h3 => ?_)
      ·
        first | (have h3 := of_decide_eq_true h3) | (have h3 := of_decide_eq_false h3) | skip
        obtain ⟨_, k2, hk4, hk5, hk6, hbt2, hbk2⟩ | ⟨hk, _, _⟩ := rb_ok hby
        rotate_left
        · exact absurd ‹(rb l).2.2 = 0› hk
        rw [hk5, Int.toNat_natCast, List.length_drop] at hz2
        refine J_seq ?_
        refine J_region ?_
        refine L_v rfl rfl rfl (V_move rfl rfl) ?_
        refine L_callB rfl rfl rfl rfl rfl rfl tx15l (fun w hw => putBytes_ok none 0 0 [] (ba (rb l).1) w (SlB.nil _ _) (by omega) (Nat.le_refl _) (by rw [ba_size]; omega)) (fun g6 r6 c6 hl6 hc6 hr6 => ?_)
        refine L_v rfl rfl rfl (V_move rfl rfl) ?_
        refine L_v rfl rfl rfl (V_extract rfl rfl rfl) ?_
        refine L_v rfl rfl rfl (V_extract rfl rfl rfl) ?_
        refine L_v rfl rfl rfl (V_assign rfl rfl) ?_
        refine L_v rfl rfl rfl (V_assign rfl rfl) ?_
        refine L_nil ?_
        change J _ _ _ _
        refine J_seq ?_
        refine J_regionQ rfl (by kernel_rfl) ?_
        refine LQ_v rfl rfl rfl (V_move rfl rfl) ?_
        refine LQ_v rfl rfl rfl (V_neq rfl rfl rfl (by first | exact decide_eq_true (by omega) | exact decide_eq_false (by omega) | rfl)) ?_
        refine LQ_v rfl rfl rfl (V_move rfl rfl) ?_
        refine LQ_wv rfl rfl rfl rfl rfl rfl (V_move rfl rfl) ?_
        refine LQ_wv rfl rfl rfl rfl rfl rfl (V_str rfl rfl Try.underlying22 Try.underlying5 Try.underlying9 (fun w hw => SlB.of_own hw (i := 3) rfl hl6 _)) ?_
        refine LQ_wv rfl rfl rfl rfl rfl rfl (V_move rfl rfl) ?_
        refine LQ_wv rfl rfl rfl rfl rfl rfl (V_move rfl rfl) ?_
        refine LQ_wv rfl rfl rfl rfl rfl rfl (V_len rfl rfl Try.underlying22 rfl) ?_
        refine LQ_wv rfl rfl rfl rfl rfl rfl (V_move rfl rfl) ?_
        refine LQ_wcallV rfl rfl rfl rfl rfl rfl rfl rfl rfl tx25l (fun w hw => left_w b2 a2 n2 c2 w (hw.at (i := 1) rfl)) ?_
        refine LQ_wv rfl rfl rfl rfl rfl rfl (V_sub rfl rfl rfl (by first | exact Go.IntWalk.i64_in _ (by omega) | rfl)) ?_
        refine LQ_wv rfl rfl rfl rfl rfl rfl (V_slice0 rfl rfl Try.underlying22 sz5l (Bd.at (v := k2) rfl (by omega)) rfl rfl (by first | omega | (simp; omega)) (by first | omega | (simp; omega))) ?_
        refine LQ_wv rfl rfl rfl rfl rfl rfl (V_str rfl rfl Try.underlying22 Try.underlying5 Try.underlying9 (fun w hw => SlB.take (SlB.later hw rfl hu) (by first | omega | (simp; omega)) _)) ?_
        refine LQ_wv rfl rfl rfl rfl rfl rfl (V_neS rfl rfl rfl (decide_eq_false (fun h => h (by first | (rw [hbk1]; rfl) | (rw [hbk2, ba_size, bs_ba hbt2]; rfl))))) ?_
        first | refine LQ_v rfl rfl rfl (V_pickT rfl rfl rfl) ?_ | refine LQ_v rfl rfl rfl (V_pickF rfl rfl rfl) ?_
        refine LQ_nil ?_
        change J _ _ _ _
        refine J_false rfl ?_
        refine J_skip ?_
        change J _ _ _ _
        refine J_seq ?_
        refine J_region ?_
        refine L_callV rfl rfl rfl rfl rfl rfl tx13l (fun w _ => puts_w w) ?_
        refine L_v rfl rfl rfl (V_move rfl rfl) ?_
        refine L_wcallV rfl rfl rfl rfl rfl rfl rfl rfl rfl tx26l (fun w _ => reads_w w) ?_
        first | refine L_v rfl rfl rfl (V_pickT rfl rfl rfl) ?_ | refine L_v rfl rfl rfl (V_pickF rfl rfl rfl) ?_
        refine L_v rfl rfl rfl (V_assign rfl rfl) ?_
        refine L_nil ?_
        change J _ _ _ _
        refine J_ret ?_
        change Kret _ _ _ Exit.ret _
        refine ret1 rfl rfl (RV_t rfl) ?_
        exact fun w' h => ⟨rfl, h.fr⟩
      ·
        first | (have h3 := of_decide_eq_true h3) | (have h3 := of_decide_eq_false h3) | skip
        refine J_skip ?_
        change J _ _ _ _
        refine J_seq ?_
        refine J_region ?_
        refine L_callV rfl rfl rfl rfl rfl rfl tx13l (fun w _ => puts_w w) ?_
        refine L_v rfl rfl rfl (V_move rfl rfl) ?_
        refine L_wcallV rfl rfl rfl rfl rfl rfl rfl rfl rfl tx26l (fun w _ => reads_w w) ?_
        first | refine L_v rfl rfl rfl (V_pickT rfl rfl rfl) ?_ | refine L_v rfl rfl rfl (V_pickF rfl rfl rfl) ?_
        refine L_v rfl rfl rfl (V_assign rfl rfl) ?_
        refine L_nil ?_
        change J _ _ _ _
        refine J_ret ?_
        change Kret _ _ _ Exit.ret _
        refine ret1 rfl rfl (RV_t rfl) ?_
        exact fun w' h => ⟨rfl, h.fr⟩
    ·
      first | (have h2 := of_decide_eq_true h2) | (have h2 := of_decide_eq_false h2) | skip
      refine J_skip ?_
      change J _ _ _ _
      refine J_seq ?_
      refine J_region ?_
      refine L_v rfl rfl rfl (V_move rfl rfl) ?_
      refine L_call rfl rfl rfl rfl tx21l (fun w hw => (rbytes_w b2 a n c l w (hw.at (i := 1) rfl) (SlB.later hw rfl hu) hby hcn (by omega)).mono ?_)
      rintro e w' ⟨a2, n2, c2, he, hfr2, hb2, hcn2, hsl2⟩
      subst he
      have hz2 := (hsl2 w (SlB.later hw rfl hu)).size
      refine ⟨_, _, _, rfl, hw.set (i := 1) rfl hfr2 hb2, rfl, ?_⟩
      refine L_v rfl rfl rfl (V_move rfl rfl) ?_
      refine L_v rfl rfl rfl (V_extract rfl rfl rfl) ?_
      refine L_v rfl rfl rfl (V_extract rfl rfl rfl) ?_
      refine L_v rfl rfl rfl (V_assign rfl rfl) ?_
      refine L_v rfl rfl rfl (V_assign rfl rfl) ?_
      refine L_nil ?_
      change J _ _ _ _
      refine J_seq ?_
      refine J_seq ?_
      refine J_region ?_
      refine L_v rfl rfl rfl (V_move rfl rfl) ?_
      refine L_v rfl rfl rfl (V_eql rfl rfl rfl (by first | exact decide_eq_true (by omega) | exact decide_eq_false (by omega) | rfl)) ?_
      refine L_nil ?_
      change J _ _ _ _
      refine J_cond rfl (fun h3 => ?_) (fun h3 => ?_)
      ·
        first | (have h3 := of_decide_eq_true h3) | (have h3 := of_decide_eq_false h3) | skip
        obtain ⟨_, k2, hk4, hk5, hk6, hbt2, hbk2⟩ | ⟨hk, _, _⟩ := rb_ok hby
        rotate_left
        · exact absurd ‹(rb l).2.2 = 0› hk
        rw [hk5, Int.toNat_natCast, List.length_drop] at hz2
        refine J_seq ?_
        refine J_region ?_
        refine L_v rfl rfl rfl (V_move rfl rfl) ?_
        refine L_callB rfl rfl rfl rfl rfl rfl tx15l (fun w hw => putBytes_ok none 0 0 [] (ba (rb l).1) w (SlB.nil _ _) (by omega) (Nat.le_refl _) (by rw [ba_size]; omega)) (fun g6 r6 c6 hl6 hc6 hr6 => ?_)
        refine L_v rfl rfl rfl (V_move rfl rfl) ?_
        refine L_v rfl rfl rfl (V_extract rfl rfl rfl) ?_
        refine L_v rfl rfl rfl (V_extract rfl rfl rfl) ?_
        refine L_v rfl rfl rfl (V_assign rfl rfl) ?_
        refine L_v rfl rfl rfl (V_assign rfl rfl) ?_
        refine L_nil ?_
        change J _ _ _ _
        refine J_seq ?_
        refine J_regionQ rfl (by kernel_rfl) ?_
        refine LQ_v rfl rfl rfl (V_move rfl rfl) ?_
        refine LQ_v rfl rfl rfl (V_neq rfl rfl rfl (by first | exact decide_eq_true (by omega) | exact decide_eq_false (by omega) | rfl)) ?_
        refine LQ_v rfl rfl rfl (V_move rfl rfl) ?_
        refine LQ_wv rfl rfl rfl rfl rfl rfl (V_move rfl rfl) ?_
        refine LQ_wv rfl rfl rfl rfl rfl rfl (V_str rfl rfl Try.underlying22 Try.underlying5 Try.underlying9 (fun w hw => SlB.of_own hw (i := 2) rfl hl6 _)) ?_
        refine LQ_wv rfl rfl rfl rfl rfl rfl (V_move rfl rfl) ?_
        refine LQ_wv rfl rfl rfl rfl rfl rfl (V_move rfl rfl) ?_
        refine LQ_wv rfl rfl rfl rfl rfl rfl (V_len rfl rfl Try.underlying22 rfl) ?_
        refine LQ_wv rfl rfl rfl rfl rfl rfl (V_move rfl rfl) ?_
        refine LQ_wcallV rfl rfl rfl rfl rfl rfl rfl rfl rfl tx25l (fun w hw => left_w b2 a2 n2 c2 w (hw.at (i := 1) rfl)) ?_
        refine LQ_wv rfl rfl rfl rfl rfl rfl (V_sub rfl rfl rfl (by first | exact Go.IntWalk.i64_in _ (by omega) | rfl)) ?_
        refine LQ_wv rfl rfl rfl rfl rfl rfl (V_slice0 rfl rfl Try.underlying22 sz5l (Bd.at (v := k2) rfl (by omega)) rfl rfl (by first | omega | (simp; omega)) (by first | omega | (simp; omega))) ?_
        refine LQ_wv rfl rfl rfl rfl rfl rfl (V_str rfl rfl Try.underlying22 Try.underlying5 Try.underlying9 (fun w hw => SlB.take (SlB.later hw rfl hu) (by first | omega | (simp; omega)) _)) ?_
        refine LQ_wv rfl rfl rfl rfl rfl rfl (V_neS rfl rfl rfl (decide_eq_false (fun h => h (by first | (rw [hbk1]; rfl) | (rw [hbk2, ba_size, bs_ba hbt2]; rfl))))) ?_
        first | refine LQ_v rfl rfl rfl (V_pickT rfl rfl rfl) ?_ | refine LQ_v rfl rfl rfl (V_pickF rfl rfl rfl) ?_
        refine LQ_nil ?_
        change J _ _ _ _
        refine J_false rfl ?_
        refine J_skip ?_
        change J _ _ _ _
        refine J_seq ?_
        refine J_region ?_
        refine L_callV rfl rfl rfl rfl rfl rfl tx13l (fun w _ => puts_w w) ?_
        refine L_v rfl rfl rfl (V_move rfl rfl) ?_
        refine L_wcallV rfl rfl rfl rfl rfl rfl rfl rfl rfl tx26l (fun w _ => reads_w w) ?_
        first | refine L_v rfl rfl rfl (V_pickT rfl rfl rfl) ?_ | refine L_v rfl rfl rfl (V_pickF rfl rfl rfl) ?_
        refine L_v rfl rfl rfl (V_assign rfl rfl) ?_
        refine L_nil ?_
        change J _ _ _ _
        refine J_ret ?_
        change Kret _ _ _ Exit.ret _
        refine ret1 rfl rfl (RV_t rfl) ?_
        exact fun w' h => ⟨rfl, h.fr⟩
      ·
        first | (have h3 := of_decide_eq_true h3) | (have h3 := of_decide_eq_false h3) | skip
        refine J_skip ?_
        change J _ _ _ _
        refine J_seq ?_
        refine J_region ?_
        refine L_callV rfl rfl rfl rfl rfl rfl tx13l (fun w _ => puts_w w) ?_
        refine L_v rfl rfl rfl (V_move rfl rfl) ?_
        refine L_wcallV rfl rfl rfl rfl rfl rfl rfl rfl rfl tx26l (fun w _ => reads_w w) ?_
        first | refine L_v rfl rfl rfl (V_pickT rfl rfl rfl) ?_ | refine L_v rfl rfl rfl (V_pickF rfl rfl rfl) ?_
        refine L_v rfl rfl rfl (V_assign rfl rfl) ?_
        refine L_nil ?_
        change J _ _ _ _
        refine J_ret ?_
        change Kret _ _ _ Exit.ret _
        refine ret1 rfl rfl (RV_t rfl) ?_
        exact fun w' h => ⟨rfl, h.fr⟩

theorem OctetOne_w (v : Value) (l : List Int) (w : World) (hv : SlB w v l) (hb : Byt l) (hc : ∀ a n c, v = .slice a n c → n ≤ c) :
    Calls Try.prog 7 #[v] w fun e w' => e = .returned (.bool true) ∧ Fr [] w w' := by
  obtain ⟨a, c, rfl⟩ := hv.form
  exact OctetOne_a a l.length c l w hv hb (hc _ _ _ rfl)

end Go.Proofs.Ytjaepffehaendaa
