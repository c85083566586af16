/- What the law comes to. -/
import Derived.Test.YtjaepffehaendaaOctetRead
set_option linter.unusedVariables false
set_option linter.unusedSimpArgs false
set_option maxRecDepth 100000
namespace Go.Proofs.Ytjaepffehaendaa
open Go.Sx
theorem sz3l : (Try.prog.info? 3).map (·.size) = some 1 := by kernel_rfl
theorem sz5l : (Try.prog.info? 5).map (·.size) = some 1 := by kernel_rfl
theorem sz32l : (Try.prog.info? 32).map (·.size) = some 32 := by kernel_rfl
theorem tx10l : Txt Try.prog 10 := txt_of Try.func10 rfl (by kernel_rfl)
theorem tx18l : Txt Try.prog 18 := txt_of Try.func18 rfl (by kernel_rfl)
theorem tx19l : Txt Try.prog 19 := txt_of Try.func19 rfl (by kernel_rfl)
theorem tx20l : Txt Try.prog 20 := txt_of Try.func20 rfl (by kernel_rfl)
theorem tx21l : Txt Try.prog 21 := txt_of Try.func21 rfl (by kernel_rfl)
theorem tx22l : Txt Try.prog 22 := txt_of Try.func22 rfl (by kernel_rfl)
theorem tx23l : Txt Try.prog 23 := txt_of Try.func23 rfl (by kernel_rfl)
theorem tx24l : Txt Try.prog 24 := txt_of Try.func24 rfl (by kernel_rfl)
theorem tx25l : Txt Try.prog 25 := txt_of Try.func25 rfl (by kernel_rfl)
theorem tx26l : Txt Try.prog 26 := txt_of Try.func26 rfl (by kernel_rfl)
theorem tx27l : Txt Try.prog 27 := txt_of Try.func27 rfl (by kernel_rfl)
theorem z32l : (Try.prog.info? 32).bind (·.zero) = some (.agg (dg zd).toArray) := by kernel_rfl

theorem egD : Try.prog.eqGuardType Try.prog.depth 32 = false := by kernel_rfl
theorem OctetReads_a (a : Option Addr) (n c : Nat) (l : List Int) (a2 : Option Addr) (n2 c2 : Nat) (xs : List Int) (w : World) (hu : SlB w (.slice a n c) l) (hby : Byt l) (hcn : n ≤ c) (hxs : xs.length = n2) (hx : SlC 1 w (.slice a2 n2 c2) n2 (xs.map (Value.int .i64))) :
    Calls Try.prog 5 #[.slice a n c, .slice a2 n2 c2] w fun e w' => e = .returned (.bool true) ∧ Fr [] w w' := by
  have hl := hu.size
  refine calls_of (args := [.slice a n c, .slice a2 n2 c2]) ([]) ([]) ([]) Try.func5 rfl rfl (okW0 _ _ _ _) ?_
  refine J_seq ?_
  refine J_region ?_
  refine L_v rfl rfl rfl (V_assign rfl rfl) ?_
  refine L_nil ?_
  change J _ _ _ _
  refine J_seq ?_
  refine J_seq ?_
  refine J_region ?_
  refine L_v rfl rfl rfl (V_move rfl rfl) ?_
  refine L_v rfl rfl rfl (V_len rfl rfl Try.underlying22 rfl) ?_
  refine L_v rfl rfl rfl (V_gtr rfl rfl rfl (by first | exact decide_eq_true (by omega) | exact decide_eq_false (by omega) | rfl)) ?_
  refine L_v rfl rfl rfl (V_move rfl rfl) ?_
  refine L_split 28 rfl (fun h1 => ?_) (fun h1 => ?_)
  ·
    first | (have h1 := of_decide_eq_true h1) | (have h1 := of_decide_eq_false h1) | skip
    refine L_skip rfl rfl rfl rfl rfl rfl rfl ?_
    refine L_skip rfl rfl rfl rfl rfl rfl rfl ?_
    refine L_skip rfl rfl rfl rfl rfl rfl rfl ?_
    first | refine L_v rfl rfl rfl (V_pickT rfl rfl rfl) ?_ | refine L_v rfl rfl rfl (V_pickF rfl rfl rfl) ?_
    refine L_nil ?_
    change J _ _ _ _
    refine J_true rfl ?_
    refine J_seq ?_
    refine J_region ?_
    refine L_v rfl rfl rfl (V_assign rfl rfl) ?_
    refine L_nil ?_
    change J _ _ _ _
    refine J_ret ?_
    change Kret _ _ _ Exit.ret _
    refine ret1 rfl rfl (RV_t rfl) ?_
    exact fun w' h => ⟨rfl, h.fr⟩
  ·
    first | (have h1 := of_decide_eq_true h1) | (have h1 := of_decide_eq_false h1) | skip
    refine L_wv rfl rfl rfl rfl rfl rfl (V_move rfl rfl) ?_
    refine L_wv rfl rfl rfl rfl rfl rfl (V_len rfl rfl Try.underlying37 rfl) ?_
    refine L_wv rfl rfl rfl rfl rfl rfl (V_gtr rfl rfl rfl (by first | exact decide_eq_true (by omega) | exact decide_eq_false (by omega) | rfl)) ?_
    first | refine L_v rfl rfl rfl (V_pickT rfl rfl rfl) ?_ | refine L_v rfl rfl rfl (V_pickF rfl rfl rfl) ?_
    refine L_nil ?_
    change J _ _ _ _
    refine J_cond rfl (fun h2 => ?_) (fun h2 => ?_)
    ·
      first | (have h2 := of_decide_eq_true h2) | (have h2 := of_decide_eq_false h2) | skip
      refine J_seq ?_
      refine J_region ?_
      refine L_v rfl rfl rfl (V_assign rfl rfl) ?_
      refine L_nil ?_
      change J _ _ _ _
      refine J_ret ?_
      change Kret _ _ _ Exit.ret _
      refine ret1 rfl rfl (RV_t rfl) ?_
      exact fun w' h => ⟨rfl, h.fr⟩
    ·
      first | (have h2 := of_decide_eq_true h2) | (have h2 := of_decide_eq_false h2) | skip
      refine J_skip ?_
      change J _ _ _ _
      refine J_seq ?_
      refine J_region ?_
      refine L_v rfl rfl rfl (V_move rfl rfl) ?_
      refine L_call rfl rfl rfl rfl tx10l (fun w hw => (lent_w a n c l w (SlB.later hw rfl hu) (by omega)).mono ?_)
      rintro e w' ⟨g0, r0, c0, rfl, hn0, hc0, hr0⟩
      refine ⟨_, _, _, rfl, hn0.okW hw, rfl, ?_⟩
      refine L_v rfl rfl rfl (V_assign rfl rfl) ?_
      refine L_nil ?_
      change J _ _ _ _
      refine J_seq ?_
      refine J_region ?_
      refine L_v rfl rfl rfl (V_move rfl rfl) ?_
      refine L_call rfl rfl rfl rfl tx18l (fun w hw => (new_w (some ⟨g0, 0, none⟩) n c0 w).mono ?_)
      rintro e w' ⟨b1, rfl, hfr1, hsz1, hb1⟩
      refine ⟨_, _, _, rfl, hw.add hfr1 hb1 hsz1, rfl, ?_⟩
      refine L_v rfl rfl rfl (V_assign rfl rfl) ?_
      refine L_nil ?_
      change J _ _ _ _
      refine J_seq ?_
      refine J_seq ?_
      refine J_region ?_
      refine L_v rfl rfl rfl (V_move rfl rfl) ?_
      refine L_v rfl rfl rfl (V_eqP rfl rfl rfl Try.underlying38 rfl) ?_
      refine L_nil ?_
      change J _ _ _ _
      refine J_false rfl ?_
      refine J_skip ?_
      change J _ _ _ _
      refine J_seq ?_
      refine J_region ?_
      refine L_v rfl rfl rfl (V_assign rfl rfl) ?_
      refine L_nil ?_
      change J _ _ _ _
      refine J_seq ?_
      refine J_seq ?_
      refine J_region ?_
      refine L_v rfl rfl rfl (V_assign rfl rfl) ?_
      refine L_nil ?_
      change J _ _ _ _
      refine J_block ?_
      refine J_loop (X := Nat × Nat × Option Addr × Nat × Nat) (fun q => { env := [(0, .slice a n c), (1, .slice a2 n2 c2), (5, .slice (some ⟨g0, 0, none⟩) n c0), (6, .pointer (some ⟨b1, 0, none⟩)), (7, .int .i64 (q.2.1 : Int)), (8, .int .i64 (q.1 : Int))], mem := [(g0, row 5 (dg l ++ (dg (List.replicate 8 165) ++ r0))), (b1, row 65 [.slice q.2.2.1 q.2.2.2.1 q.2.2.2.2])] }) (fun q => q.1 ≤ n2 ∧ q.2.1 ≤ n ∧ q.2.2.2.1 = n - q.2.1 ∧ q.2.2.2.1 ≤ q.2.2.2.2 ∧ ∀ W, SlB W (.slice (some ⟨g0, 0, none⟩) n c0) l → SlB W (.slice q.2.2.1 q.2.2.2.1 q.2.2.2.2) (l.drop q.2.1)) (fun q => n2 - q.1) (0, 0, some ⟨g0, 0, none⟩, n, c0) ⟨Nat.zero_le _, Nat.zero_le _, rfl, by show n ≤ c0; omega, fun W hW => hW⟩ ⟨⟨rfl, rfl, rfl, rfl, rfl, rfl, trivial⟩, List.Sublist.refl _, fun f hf => hf, rfl⟩ ?_
      rintro ⟨i, at_, ar, nr, cr⟩ ⟨hi, hat, hnn, hnr, hrd⟩
      simp only at hi hat hnn hnr hrd ⊢
      refine J_seq ?_
      refine J_seq ?_
      refine J_region ?_
      refine L_v rfl rfl rfl (V_move rfl rfl) ?_
      refine L_v rfl rfl rfl (V_move rfl rfl) ?_
      refine L_v rfl rfl rfl (V_len rfl rfl Try.underlying37 rfl) ?_
      refine L_v rfl rfl rfl (V_lss rfl rfl rfl (by first | exact decide_eq_true (by omega) | exact decide_eq_false (by omega) | rfl)) ?_
      refine L_nil ?_
      change J _ _ _ _
      refine J_cond rfl (fun h3 => ?_) (fun h3 => ?_)
      ·
        first | (have h3 := of_decide_eq_true h3) | (have h3 := of_decide_eq_false h3) | skip
        have hld : (xs.map (Value.int .i64))[((i : Nat) : Int).toNat * (0 + 1)]? = some (.int .i64 (xs.getD i 0)) := by
          rw [Int.toNat_natCast, Nat.mul_one, List.getElem?_map, List.getD_eq_getElem?_getD, List.getElem?_eq_getElem (by omega)]
          rfl
        refine J_skip ?_
        change J _ _ _ _
        refine J_seq ?_
        refine J_block ?_
        refine J_seq ?_
        refine J_region ?_
        refine L_v rfl rfl rfl (V_assign rfl rfl) ?_
        refine L_nil ?_
        change J _ _ _ _
        refine J_seq ?_
        refine J_seq ?_
        refine J_region ?_
        refine L_v rfl rfl rfl (V_move rfl rfl) ?_
        refine L_v rfl rfl rfl (V_move rfl rfl) ?_
        refine L_v rfl rfl rfl (V_indexC (size := 0) rfl rfl rfl Try.underlying37 sz3l (fun w hw => SlC.later hw rfl hx) (by omega) (by omega)) ?_
        refine L_v rfl rfl rfl (V_loadC (cap := c2) rfl rfl Try.underlying3 rfl (fun w hw => SlC.later hw rfl hx) hld) ?_
        refine L_nil ?_
        change J _ _ _ _
        refine J_block ?_
        refine J_seq ?_
        refine J_region ?_
        refine L_v rfl rfl rfl (V_eql rfl rfl rfl (by first | exact decide_eq_true (by omega) | exact decide_eq_false (by omega) | rfl)) ?_
        refine L_v rfl rfl rfl (V_assign rfl rfl) ?_
        refine L_nil ?_
        change J _ _ _ _
        refine J_cond rfl (fun h4 => ?_) (fun h4 => ?_)
        ·
          first | (have h4 := of_decide_eq_true h4) | (have h4 := of_decide_eq_false h4) | skip
          obtain ⟨k, hk, hkl⟩ := rc_len (hby.drop at_)
          rw [List.length_drop] at hkl
          refine J_seq ?_
          refine J_region ?_
          refine L_v rfl rfl rfl (V_move rfl rfl) ?_
          refine L_call rfl rfl rfl rfl tx19l (fun w hw => (rcount_w b1 ar nr cr (l.drop at_) w (hw.at (i := 1) rfl) (hrd w (SlB.of_own hw (i := 0) rfl hl c0)) (hby.drop _) hnr (by omega)).mono ?_)
          rintro e w' ⟨a1, n1, c1, he, hfr1, hb1, hcn1, hsl1⟩
          subst he
          rw [hk, Int.toNat_natCast, List.drop_drop] at hsl1
          have hz1 := (hsl1 w (hrd w (SlB.of_own hw (i := 0) rfl hl c0))).size
          rw [List.length_drop] at hz1
          refine ⟨_, _, _, rfl, hw.set (i := 1) rfl hfr1 hb1, rfl, ?_⟩
          refine L_v rfl rfl rfl (V_move rfl rfl) ?_
          refine L_v rfl rfl rfl (V_extract rfl rfl rfl) ?_
          refine L_v rfl rfl rfl (V_extract rfl rfl rfl) ?_
          refine L_v rfl rfl rfl (V_assign rfl rfl) ?_
          refine L_v rfl rfl rfl (V_assign rfl rfl) ?_
          refine L_nil ?_
          change J _ _ _ _
          refine J_seq ?_
          refine J_region ?_
          refine L_v rfl rfl rfl (V_move rfl rfl) ?_
          refine L_v rfl rfl rfl (V_move rfl rfl) ?_
          refine L_v rfl rfl rfl (V_sliceS rfl rfl Try.underlying22 sz5l ⟨_, rfl⟩ rfl rfl rfl (by first | omega | (simp; omega)) (by first | omega | (simp; omega)) (by first | omega | (simp; omega)) rfl) ?_
          refine L_callV rfl rfl rfl rfl rfl rfl tx20l (fun w hw => readCount_w _ _ _ (l.drop at_) w (SlB.from (SlB.later hw rfl hu) (by omega) hcn) (hby.drop _) (by omega) (by omega)) ?_
          refine L_v rfl rfl rfl (V_move rfl rfl) ?_
          refine L_v rfl rfl rfl (V_extract rfl rfl rfl) ?_
          refine L_v rfl rfl rfl (V_extract rfl rfl rfl) ?_
          refine L_v rfl rfl rfl (V_extract rfl rfl rfl) ?_
          refine L_v rfl rfl rfl (V_assign rfl rfl) ?_
          refine L_v rfl rfl rfl (V_assign rfl rfl) ?_
          refine L_v rfl rfl rfl (V_assign rfl rfl) ?_
          refine L_nil ?_
          change J _ _ _ _
          refine J_seq ?_
          refine J_seq ?_
          refine J_region ?_
          refine L_v rfl rfl rfl (V_move rfl rfl) ?_
          refine L_v rfl rfl rfl (V_move rfl rfl) ?_
          refine L_v rfl rfl rfl (V_neq rfl rfl rfl (by first | exact decide_eq_true (by omega) | exact decide_eq_false (by omega) | rfl)) ?_
          refine L_v rfl rfl rfl (V_move rfl rfl) ?_
          refine L_wv rfl rfl rfl rfl rfl rfl (V_move rfl rfl) ?_
          refine L_wv rfl rfl rfl rfl rfl rfl (V_move rfl rfl) ?_
          refine L_wv rfl rfl rfl rfl rfl rfl (V_neq rfl rfl rfl (by first | exact decide_eq_true (by omega) | exact decide_eq_false (by omega) | rfl)) ?_
          first | refine L_v rfl rfl rfl (V_pickT rfl rfl rfl) ?_ | refine L_v rfl rfl rfl (V_pickF rfl rfl rfl) ?_
          refine L_nil ?_
          change J _ _ _ _
          refine J_false rfl ?_
          refine J_skip ?_
          change J _ _ _ _
          refine J_region ?_
          refine L_v rfl rfl rfl (V_move rfl rfl) ?_
          refine L_v rfl rfl rfl (V_assign rfl rfl) ?_
          refine L_nil ?_
          change J _ _ _ _
          refine J_seq ?_
          refine J_region ?_
          refine L_v rfl rfl rfl (V_move rfl rfl) ?_
          refine L_v rfl rfl rfl (V_move rfl rfl) ?_
          refine L_v rfl rfl rfl (V_add rfl rfl rfl (by first | exact Go.IntWalk.i64_in _ (by omega) | rfl)) ?_
          refine L_v rfl rfl rfl (V_assign rfl rfl) ?_
          refine L_nil ?_
          change J _ _ _ _
          refine J_seq ?_
          refine J_region ?_
          refine L_v rfl rfl rfl (V_move rfl rfl) ?_
          refine L_callV rfl rfl rfl rfl rfl rfl tx25l (fun w hw => left_w b1 a1 n1 c1 w (hw.at (i := 1) rfl)) ?_
          refine L_v rfl rfl rfl (V_move rfl rfl) ?_
          refine L_v rfl rfl rfl (V_len rfl rfl Try.underlying22 rfl) ?_
          refine L_v rfl rfl rfl (V_move rfl rfl) ?_
          refine L_v rfl rfl rfl (V_sub rfl rfl rfl (by first | exact Go.IntWalk.i64_in _ (by omega) | rfl)) ?_
          refine L_v rfl rfl rfl (V_neq rfl rfl rfl (by first | exact decide_eq_true (by omega) | exact decide_eq_false (by omega) | rfl)) ?_
          refine L_nil ?_
          change J _ _ _ _
          refine J_false rfl ?_
          refine J_skip ?_
          change J _ _ _ _
          refine J_region ?_
          refine L_v rfl rfl rfl (V_move rfl rfl) ?_
          refine L_v rfl rfl rfl (V_add rfl rfl rfl (by first | exact Go.IntWalk.i64_in _ (by omega) | rfl)) ?_
          refine L_v rfl rfl rfl (V_assign rfl rfl) ?_
          refine L_nil ?_
          exact ⟨(i + 1, at_ + k, a1, n1, c1), ⟨by show i + 1 ≤ n2; omega, by show at_ + k ≤ n; omega, by show n1 = n - (at_ + k); omega, hcn1, fun W hW => hsl1 W (hrd W hW)⟩, by show n2 - (i + 1) < n2 - i; omega, ⟨rfl, rfl, rfl, rfl, by show some _ = some _; rw [hk]; rfl, rfl, trivial⟩, (by first | exact List.Sublist.refl _ | exact List.Sublist.cons_cons _ (List.Sublist.cons_cons _ (List.nil_sublist _))), fun f hf => hf, rfl⟩
        ·
          first | (have h4 := of_decide_eq_true h4) | (have h4 := of_decide_eq_false h4) | skip
          refine J_seq ?_
          refine J_region ?_
          refine L_v rfl rfl rfl (V_eql rfl rfl rfl (by first | exact decide_eq_true (by omega) | exact decide_eq_false (by omega) | rfl)) ?_
          refine L_v rfl rfl rfl (V_assign rfl rfl) ?_
          refine L_nil ?_
          change J _ _ _ _
          refine J_cond rfl (fun h5 => ?_) (fun h5 => ?_)
          ·
            first | (have h5 := of_decide_eq_true h5) | (have h5 := of_decide_eq_false h5) | skip
            obtain ⟨k, hk, hkl⟩ := rb_len (hby.drop at_)
            rw [List.length_drop] at hkl
            refine J_seq ?_
            refine J_region ?_
            refine L_v rfl rfl rfl (V_move rfl rfl) ?_
            refine L_call rfl rfl rfl rfl tx21l (fun w hw => (rbytes_w b1 ar nr cr (l.drop at_) w (hw.at (i := 1) rfl) (hrd w (SlB.of_own hw (i := 0) rfl hl c0)) (hby.drop _) hnr (by omega)).mono ?_)
            rintro e w' ⟨a1, n1, c1, he, hfr1, hb1, hcn1, hsl1⟩
            subst he
            rw [hk, Int.toNat_natCast, List.drop_drop] at hsl1
            have hz1 := (hsl1 w (hrd w (SlB.of_own hw (i := 0) rfl hl c0))).size
            rw [List.length_drop] at hz1
            refine ⟨_, _, _, rfl, hw.set (i := 1) rfl hfr1 hb1, rfl, ?_⟩
            refine L_v rfl rfl rfl (V_move rfl rfl) ?_
            refine L_v rfl rfl rfl (V_extract rfl rfl rfl) ?_
            refine L_v rfl rfl rfl (V_extract rfl rfl rfl) ?_
            refine L_v rfl rfl rfl (V_assign rfl rfl) ?_
            refine L_v rfl rfl rfl (V_assign rfl rfl) ?_
            refine L_nil ?_
            change J _ _ _ _
            refine J_seq ?_
            refine J_region ?_
            refine L_v rfl rfl rfl (V_move rfl rfl) ?_
            refine L_v rfl rfl rfl (V_move rfl rfl) ?_
            refine L_v rfl rfl rfl (V_sliceS rfl rfl Try.underlying22 sz5l ⟨_, rfl⟩ rfl rfl rfl (by first | omega | (simp; omega)) (by first | omega | (simp; omega)) (by first | omega | (simp; omega)) rfl) ?_
            refine L_callV rfl rfl rfl rfl rfl rfl tx22l (fun w hw => readBytes_w _ _ _ (l.drop at_) w (SlB.from (SlB.later hw rfl hu) (by omega) hcn) (hby.drop _) (by omega) (by omega)) ?_
            refine L_v rfl rfl rfl (V_move rfl rfl) ?_
            refine L_v rfl rfl rfl (V_extract rfl rfl rfl) ?_
            refine L_v rfl rfl rfl (V_extract rfl rfl rfl) ?_
            refine L_v rfl rfl rfl (V_extract rfl rfl rfl) ?_
            refine L_v rfl rfl rfl (V_assign rfl rfl) ?_
            refine L_v rfl rfl rfl (V_assign rfl rfl) ?_
            refine L_v rfl rfl rfl (V_assign rfl rfl) ?_
            refine L_nil ?_
            change J _ _ _ _
            refine J_seq ?_
            refine J_seq ?_
            refine J_region ?_
            refine L_v rfl rfl rfl (V_move rfl rfl) ?_
            refine L_v rfl rfl rfl (V_move rfl rfl) ?_
            refine L_v rfl rfl rfl (V_neS rfl rfl rfl (decide_eq_false (fun h => h rfl))) ?_
            refine L_v rfl rfl rfl (V_move rfl rfl) ?_
            refine L_wv rfl rfl rfl rfl rfl rfl (V_move rfl rfl) ?_
            refine L_wv rfl rfl rfl rfl rfl rfl (V_move rfl rfl) ?_
            refine L_wv rfl rfl rfl rfl rfl rfl (V_neq rfl rfl rfl (by first | exact decide_eq_true (by omega) | exact decide_eq_false (by omega) | rfl)) ?_
            first | refine L_v rfl rfl rfl (V_pickT rfl rfl rfl) ?_ | refine L_v rfl rfl rfl (V_pickF rfl rfl rfl) ?_
            refine L_nil ?_
            change J _ _ _ _
            refine J_false rfl ?_
            refine J_skip ?_
            change J _ _ _ _
            refine J_region ?_
            refine L_v rfl rfl rfl (V_move rfl rfl) ?_
            refine L_v rfl rfl rfl (V_assign rfl rfl) ?_
            refine L_nil ?_
            change J _ _ _ _
            refine J_seq ?_
            refine J_region ?_
            refine L_v rfl rfl rfl (V_move rfl rfl) ?_
            refine L_v rfl rfl rfl (V_move rfl rfl) ?_
            refine L_v rfl rfl rfl (V_add rfl rfl rfl (by first | exact Go.IntWalk.i64_in _ (by omega) | rfl)) ?_
            refine L_v rfl rfl rfl (V_assign rfl rfl) ?_
            refine L_nil ?_
            change J _ _ _ _
            refine J_seq ?_
            refine J_region ?_
            refine L_v rfl rfl rfl (V_move rfl rfl) ?_
            refine L_callV rfl rfl rfl rfl rfl rfl tx25l (fun w hw => left_w b1 a1 n1 c1 w (hw.at (i := 1) rfl)) ?_
            refine L_v rfl rfl rfl (V_move rfl rfl) ?_
            refine L_v rfl rfl rfl (V_len rfl rfl Try.underlying22 rfl) ?_
            refine L_v rfl rfl rfl (V_move rfl rfl) ?_
            refine L_v rfl rfl rfl (V_sub rfl rfl rfl (by first | exact Go.IntWalk.i64_in _ (by omega) | rfl)) ?_
            refine L_v rfl rfl rfl (V_neq rfl rfl rfl (by first | exact decide_eq_true (by omega) | exact decide_eq_false (by omega) | rfl)) ?_
            refine L_nil ?_
            change J _ _ _ _
            refine J_false rfl ?_
            refine J_skip ?_
            change J _ _ _ _
            refine J_region ?_
            refine L_v rfl rfl rfl (V_move rfl rfl) ?_
            refine L_v rfl rfl rfl (V_add rfl rfl rfl (by first | exact Go.IntWalk.i64_in _ (by omega) | rfl)) ?_
            refine L_v rfl rfl rfl (V_assign rfl rfl) ?_
            refine L_nil ?_
            exact ⟨(i + 1, at_ + k, a1, n1, c1), ⟨by show i + 1 ≤ n2; omega, by show at_ + k ≤ n; omega, by show n1 = n - (at_ + k); omega, hcn1, fun W hW => hsl1 W (hrd W hW)⟩, by show n2 - (i + 1) < n2 - i; omega, ⟨rfl, rfl, rfl, rfl, by show some _ = some _; rw [hk]; rfl, rfl, trivial⟩, (by first | exact List.Sublist.refl _ | exact List.Sublist.cons_cons _ (List.Sublist.cons_cons _ (List.nil_sublist _))), fun f hf => hf, rfl⟩
          ·
            first | (have h5 := of_decide_eq_true h5) | (have h5 := of_decide_eq_false h5) | skip
            refine J_seq ?_
            refine J_region ?_
            refine L_v rfl rfl rfl (V_eql rfl rfl rfl (by first | exact decide_eq_true (by omega) | exact decide_eq_false (by omega) | rfl)) ?_
            refine L_v rfl rfl rfl (V_assign rfl rfl) ?_
            refine L_nil ?_
            change J _ _ _ _
            refine J_cond rfl (fun h6 => ?_) (fun h6 => ?_)
            ·
              first | (have h6 := of_decide_eq_true h6) | (have h6 := of_decide_eq_false h6) | skip
              obtain ⟨k, hk, hkl⟩ := rd_len (l.drop at_)
              rw [List.length_drop] at hkl
              refine J_seq ?_
              refine J_region ?_
              refine L_v rfl rfl rfl (V_move rfl rfl) ?_
              refine L_call rfl rfl rfl rfl tx23l (fun w hw => (rdigest_w b1 ar nr cr (l.drop at_) w (hw.at (i := 1) rfl) (hrd w (SlB.of_own hw (i := 0) rfl hl c0)) (hby.drop _) hnr (by omega)).mono ?_)
              rintro e w' ⟨a1, n1, c1, he, hfr1, hb1, hcn1, hsl1⟩
              subst he
              rw [hk, Int.toNat_natCast, List.drop_drop] at hsl1
              have hz1 := (hsl1 w (hrd w (SlB.of_own hw (i := 0) rfl hl c0))).size
              rw [List.length_drop] at hz1
              refine ⟨_, _, _, rfl, hw.set (i := 1) rfl hfr1 hb1, rfl, ?_⟩
              refine L_v rfl rfl rfl (V_move rfl rfl) ?_
              refine L_v rfl rfl rfl (V_extract rfl rfl rfl) ?_
              refine L_v rfl rfl rfl (V_extract rfl rfl rfl) ?_
              refine L_alloc rfl rfl rfl rfl z32l (fun b2 => ?_)
              refine L_storeW 2 rfl rfl rfl rfl rfl rfl (szd sz32l (by simp [dg_length, zd_length, rd_size, *])) (dg_one _) (by simp [dg_length, zd_length, rd_size, *]) ?_
              refine L_v rfl rfl rfl (V_assign rfl rfl) ?_
              refine L_nil ?_
              change J _ _ _ _
              refine J_seq ?_
              refine J_region ?_
              refine L_v rfl rfl rfl (V_move rfl rfl) ?_
              refine L_v rfl rfl rfl (V_move rfl rfl) ?_
              refine L_v rfl rfl rfl (V_sliceS rfl rfl Try.underlying22 sz5l ⟨_, rfl⟩ rfl rfl rfl (by first | omega | (simp; omega)) (by first | omega | (simp; omega)) (by first | omega | (simp; omega)) rfl) ?_
              refine L_callV rfl rfl rfl rfl rfl rfl tx24l (fun w hw => readDigest_w _ _ _ (l.drop at_) w (SlB.from (SlB.later hw rfl hu) (by omega) hcn) (hby.drop _) (by omega) (by omega)) ?_
              refine L_v rfl rfl rfl (V_move rfl rfl) ?_
              refine L_v rfl rfl rfl (V_extract rfl rfl rfl) ?_
              refine L_v rfl rfl rfl (V_extract rfl rfl rfl) ?_
              refine L_v rfl rfl rfl (V_extract rfl rfl rfl) ?_
              refine L_alloc rfl rfl rfl rfl z32l (fun b3 => ?_)
              refine L_storeW 3 rfl rfl rfl rfl rfl rfl (szd sz32l (by simp [dg_length, zd_length, rd_size, *])) (dg_one _) (by simp [dg_length, zd_length, rd_size, *]) ?_
              refine L_v rfl rfl rfl (V_assign rfl rfl) ?_
              refine L_v rfl rfl rfl (V_assign rfl rfl) ?_
              refine L_nil ?_
              change J _ _ _ _
              refine J_seq ?_
              refine J_seq ?_
              refine J_region ?_
              refine L_v rfl rfl rfl (V_loadW 2 rfl rfl rfl Try.underlying32 rfl (szd sz32l (by simp [dg_length, zd_length, rd_size, *]))) ?_
              refine L_v rfl rfl rfl (V_loadW 3 rfl rfl rfl Try.underlying32 rfl (szd sz32l (by simp [dg_length, zd_length, rd_size, *]))) ?_
              refine L_v rfl rfl rfl (V_neD rfl rfl rfl egD Try.underlying32 Try.underlying5 sz5l (by first | exact rd_size _ | assumption) (by first | exact rd_size _ | assumption) (decide_eq_false (fun h => h rfl))) ?_
              refine L_v rfl rfl rfl (V_move rfl rfl) ?_
              refine L_wv rfl rfl rfl rfl rfl rfl (V_move rfl rfl) ?_
              refine L_wv rfl rfl rfl rfl rfl rfl (V_move rfl rfl) ?_
              refine L_wv rfl rfl rfl rfl rfl rfl (V_neq rfl rfl rfl (by first | exact decide_eq_true (by omega) | exact decide_eq_false (by omega) | rfl)) ?_
              first | refine L_v rfl rfl rfl (V_pickT rfl rfl rfl) ?_ | refine L_v rfl rfl rfl (V_pickF rfl rfl rfl) ?_
              refine L_nil ?_
              change J _ _ _ _
              refine J_false rfl ?_
              refine J_skip ?_
              change J _ _ _ _
              refine J_region ?_
              refine L_v rfl rfl rfl (V_move rfl rfl) ?_
              refine L_v rfl rfl rfl (V_assign rfl rfl) ?_
              refine L_nil ?_
              change J _ _ _ _
              refine J_seq ?_
              refine J_region ?_
              refine L_v rfl rfl rfl (V_move rfl rfl) ?_
              refine L_v rfl rfl rfl (V_move rfl rfl) ?_
              refine L_v rfl rfl rfl (V_add rfl rfl rfl (by first | exact Go.IntWalk.i64_in _ (by omega) | rfl)) ?_
              refine L_v rfl rfl rfl (V_assign rfl rfl) ?_
              refine L_nil ?_
              change J _ _ _ _
              refine J_seq ?_
              refine J_region ?_
              refine L_v rfl rfl rfl (V_move rfl rfl) ?_
              refine L_callV rfl rfl rfl rfl rfl rfl tx25l (fun w hw => left_w b1 a1 n1 c1 w (hw.at (i := 1) rfl)) ?_
              refine L_v rfl rfl rfl (V_move rfl rfl) ?_
              refine L_v rfl rfl rfl (V_len rfl rfl Try.underlying22 rfl) ?_
              refine L_v rfl rfl rfl (V_move rfl rfl) ?_
              refine L_v rfl rfl rfl (V_sub rfl rfl rfl (by first | exact Go.IntWalk.i64_in _ (by omega) | rfl)) ?_
              refine L_v rfl rfl rfl (V_neq rfl rfl rfl (by first | exact decide_eq_true (by omega) | exact decide_eq_false (by omega) | rfl)) ?_
              refine L_nil ?_
              change J _ _ _ _
              refine J_false rfl ?_
              refine J_skip ?_
              change J _ _ _ _
              refine J_region ?_
              refine L_v rfl rfl rfl (V_move rfl rfl) ?_
              refine L_v rfl rfl rfl (V_add rfl rfl rfl (by first | exact Go.IntWalk.i64_in _ (by omega) | rfl)) ?_
              refine L_v rfl rfl rfl (V_assign rfl rfl) ?_
              refine L_nil ?_
              exact ⟨(i + 1, at_ + k, a1, n1, c1), ⟨by show i + 1 ≤ n2; omega, by show at_ + k ≤ n; omega, by show n1 = n - (at_ + k); omega, hcn1, fun W hW => hsl1 W (hrd W hW)⟩, by show n2 - (i + 1) < n2 - i; omega, ⟨rfl, rfl, rfl, rfl, by show some _ = some _; rw [hk]; rfl, rfl, trivial⟩, (by first | exact List.Sublist.refl _ | exact List.Sublist.cons_cons _ (List.Sublist.cons_cons _ (List.nil_sublist _))), fun f hf => hf, rfl⟩
            ·
              first | (have h6 := of_decide_eq_true h6) | (have h6 := of_decide_eq_false h6) | skip
              refine J_skip ?_
              change J _ _ _ _
              refine J_seq ?_
              refine J_region ?_
              refine L_v rfl rfl rfl (V_move rfl rfl) ?_
              refine L_v rfl rfl rfl (V_move rfl rfl) ?_
              refine L_v rfl rfl rfl (V_add rfl rfl rfl (by first | exact Go.IntWalk.i64_in _ (by omega) | rfl)) ?_
              refine L_v rfl rfl rfl (V_assign rfl rfl) ?_
              refine L_nil ?_
              change J _ _ _ _
              refine J_seq ?_
              refine J_region ?_
              refine L_v rfl rfl rfl (V_move rfl rfl) ?_
              refine L_callV rfl rfl rfl rfl rfl rfl tx25l (fun w hw => left_w b1 ar nr cr w (hw.at (i := 1) rfl)) ?_
              refine L_v rfl rfl rfl (V_move rfl rfl) ?_
              refine L_v rfl rfl rfl (V_len rfl rfl Try.underlying22 rfl) ?_
              refine L_v rfl rfl rfl (V_move rfl rfl) ?_
              refine L_v rfl rfl rfl (V_sub rfl rfl rfl (by first | exact Go.IntWalk.i64_in _ (by omega) | rfl)) ?_
              refine L_v rfl rfl rfl (V_neq rfl rfl rfl (by first | exact decide_eq_true (by omega) | exact decide_eq_false (by omega) | rfl)) ?_
              refine L_nil ?_
              change J _ _ _ _
              refine J_false rfl ?_
              refine J_skip ?_
              change J _ _ _ _
              refine J_region ?_
              refine L_v rfl rfl rfl (V_move rfl rfl) ?_
              refine L_v rfl rfl rfl (V_add rfl rfl rfl (by first | exact Go.IntWalk.i64_in _ (by omega) | rfl)) ?_
              refine L_v rfl rfl rfl (V_assign rfl rfl) ?_
              refine L_nil ?_
              exact ⟨(i + 1, at_ + 0, ar, nr, cr), ⟨by show i + 1 ≤ n2; omega, by show at_ + 0 ≤ n; omega, by show nr = n - (at_ + 0); omega, hnr, hrd⟩, by show n2 - (i + 1) < n2 - i; omega, ⟨rfl, rfl, rfl, rfl, rfl, rfl, trivial⟩, List.Sublist.refl _, fun f hf => hf, rfl⟩
      ·
        first | (have h3 := of_decide_eq_true h3) | (have h3 := of_decide_eq_false h3) | skip
        refine J_exit ?_
        change J _ _ _ _
        refine J_seq ?_
        refine J_region ?_
        refine L_callV rfl rfl rfl rfl rfl rfl tx26l (fun w _ => reads_w w) ?_
        refine L_v rfl rfl rfl (V_move rfl rfl) ?_
        refine L_wv rfl rfl rfl rfl rfl rfl (V_move rfl rfl) ?_
        refine L_wv rfl rfl rfl rfl rfl rfl (V_move rfl rfl) ?_
        refine L_wcallV rfl rfl rfl rfl rfl rfl rfl rfl rfl tx27l (fun w hw => kept_w (some ⟨g0, 0, none⟩) n c0 l a c w (SlB.of_own hw (i := 0) rfl hl c0) (SlB.of_own hw (i := 0) (l := l ++ List.replicate 8 165) (r := r0) (by show some _ = some _; rw [dg_append, List.append_assoc]) (by rw [List.length_append, hl]; rfl) c0) (SlB.later hw rfl hu) (by omega) hc0) ?_
        first | refine L_v rfl rfl rfl (V_pickT rfl rfl rfl) ?_ | refine L_v rfl rfl rfl (V_pickF rfl rfl rfl) ?_
        refine L_v rfl rfl rfl (V_assign rfl rfl) ?_
        refine L_nil ?_
        change J _ _ _ _
        refine J_ret ?_
        change Kret _ _ _ Exit.ret _
        refine ret1 rfl rfl (RV_t rfl) ?_
        exact fun w' h => ⟨rfl, h.fr⟩

theorem OctetReads_w (v : Value) (l : List Int) (v2 : Value) (n2 : Nat) (xs : List Int) (w : World) (hxs : xs.length = n2) (hv : SlB w v l) (hx : SlC 1 w v2 n2 (xs.map (Value.int .i64))) (hb : Byt l) (hc : ∀ a n c, v = .slice a n c → n ≤ c) :
    Calls Try.prog 5 #[v, v2] w fun e w' => e = .returned (.bool true) ∧ Fr [] w w' := by
  obtain ⟨a, c, rfl⟩ := hv.form
  obtain ⟨a2, c2, rfl⟩ := hx.form
  exact OctetReads_a a l.length c l a2 n2 c2 xs w hv hb (hc _ _ _ rfl) hxs hx

end Go.Proofs.Ytjaepffehaendaa
