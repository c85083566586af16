/- What the law comes to. -/
import Derived.Test.YtjaepffehaendaaOctetPut
set_option linter.unusedVariables false
set_option linter.unusedSimpArgs false
set_option maxRecDepth 100000
namespace Go.Proofs.Ytjaepffehaendaa
open Go.Sx
theorem tx10l : Txt Try.prog 10 := txt_of Try.func10 rfl (by kernel_rfl)
theorem tx11l : Txt Try.prog 11 := txt_of Try.func11 rfl (by kernel_rfl)
theorem tx12l : Txt Try.prog 12 := txt_of Try.func12 rfl (by kernel_rfl)
theorem tx13l : Txt Try.prog 13 := txt_of Try.func13 rfl (by kernel_rfl)
theorem tx14l : Txt Try.prog 14 := txt_of Try.func14 rfl (by kernel_rfl)

theorem OctetCounts_in (a : Option Addr) (n c : Nat) (l : List Int) (m : Int) (w : World) (hu : SlB w (.slice a n c) l) (h0 : 0 ≤ m) (hm : m ≤ 2147483647) :
    Calls Try.prog 3 #[.slice a n c, .int .i64 m] w fun e w' => e = .returned (.bool true) ∧ Fr [] w w' := by
  have hl := hu.size
  have hgl := grp_len m
  refine calls_of (args := [.slice a n c, .int .i64 m]) ([]) ([]) ([]) Try.func3 rfl rfl (okW0 _ _ _ _) ?_
  refine J_seq ?_
  refine J_region ?_
  refine L_v rfl rfl rfl (V_assign rfl rfl) ?_
  refine L_nil ?_
  change J _ _ _ _
  refine J_seq ?_
  refine J_seq ?_
  refine J_region ?_
  refine L_v rfl rfl rfl (V_move rfl rfl) ?_
  refine L_v rfl rfl rfl (V_len rfl rfl Try.underlying22 rfl) ?_
  refine L_v rfl rfl rfl (V_gtr rfl rfl rfl (by first | exact decide_eq_true (by omega) | exact decide_eq_false (by omega) | rfl)) ?_
  refine L_nil ?_
  change J _ _ _ _
  refine J_cond rfl (fun h1 => ?_) (fun h1 => ?_)
  ·
    first | (have h1 := of_decide_eq_true h1) | (have h1 := of_decide_eq_false h1) | skip
    refine J_seq ?_
    refine J_region ?_
    refine L_v rfl rfl rfl (V_assign rfl rfl) ?_
    refine L_nil ?_
    change J _ _ _ _
    refine J_ret ?_
    change Kret _ _ _ Exit.ret _
    refine ret1 rfl rfl (RV_t rfl) ?_
    exact fun w' h => ⟨rfl, h.fr⟩
  ·
    first | (have h1 := of_decide_eq_true h1) | (have h1 := of_decide_eq_false h1) | skip
    refine J_skip ?_
    change J _ _ _ _
    refine J_seq ?_
    refine J_region ?_
    refine L_v rfl rfl rfl (V_move rfl rfl) ?_
    refine L_call rfl rfl rfl rfl tx10l (fun w hw => (lent_w a n c l w (SlB.later hw rfl hu) (by omega)).mono ?_)
    rintro e w' ⟨g0, r0, c0, rfl, hn0, hc0, hr0⟩
    refine ⟨_, _, _, rfl, hn0.okW hw, rfl, ?_⟩
    refine L_v rfl rfl rfl (V_assign rfl rfl) ?_
    refine L_nil ?_
    change J _ _ _ _
    refine J_seq ?_
    refine J_region ?_
    refine L_v rfl rfl rfl (V_move rfl rfl) ?_
    refine L_v rfl rfl rfl (V_move rfl rfl) ?_
    refine L_callB rfl rfl rfl rfl rfl rfl tx11l (fun w hw => putCount_ok (some ⟨g0, 0, none⟩) n c0 l m w (SlB.of_own hw (i := 0) rfl hl c0) (by omega) (by omega) h0 hm) (fun g1 r1 c1 hl1 hc1 hr1 => ?_)
    refine L_v rfl rfl rfl (V_move rfl rfl) ?_
    refine L_v rfl rfl rfl (V_extract rfl rfl rfl) ?_
    refine L_v rfl rfl rfl (V_extract rfl rfl rfl) ?_
    refine L_v rfl rfl rfl (V_assign rfl rfl) ?_
    refine L_v rfl rfl rfl (V_assign rfl rfl) ?_
    refine L_nil ?_
    change J _ _ _ _
    refine J_seq ?_
    refine J_region ?_
    refine L_v rfl rfl rfl (V_move rfl rfl) ?_
    refine L_callB rfl rfl rfl rfl rfl rfl tx12l (fun w hw => count_ok m w h0 hm) (fun g2 r2 c2 hl2 hc2 hr2 => ?_)
    refine L_v rfl rfl rfl (V_move rfl rfl) ?_
    refine L_v rfl rfl rfl (V_extract rfl rfl rfl) ?_
    refine L_v rfl rfl rfl (V_extract rfl rfl rfl) ?_
    refine L_v rfl rfl rfl (V_assign rfl rfl) ?_
    refine L_v rfl rfl rfl (V_assign rfl rfl) ?_
    refine L_nil ?_
    change J _ _ _ _
    refine J_seq ?_
    refine J_region ?_
    refine L_callV rfl rfl rfl rfl rfl rfl tx13l (fun w hw => puts_w w) ?_
    refine L_v rfl rfl rfl (V_move rfl rfl) ?_
    refine L_wv rfl rfl rfl rfl rfl rfl (V_move rfl rfl) ?_
    refine L_wv rfl rfl rfl rfl rfl rfl (V_move rfl rfl) ?_
    refine L_wv rfl rfl rfl rfl rfl rfl (V_move rfl rfl) ?_
    refine L_wv rfl rfl rfl rfl rfl rfl (V_move rfl rfl) ?_
    refine L_wv rfl rfl rfl rfl rfl rfl (V_move rfl rfl) ?_
    refine L_wv rfl rfl rfl rfl rfl rfl (V_move rfl rfl) ?_
    refine L_wcallV rfl rfl rfl rfl rfl rfl rfl rfl rfl tx14l (fun w hw => put_w (some ⟨g1, 0, none⟩) (n + (grp m).length) c1 (l ++ grp m) 0 (some ⟨g2, 0, none⟩) (grp m).length c2 (grp m) (some ⟨g0, 0, none⟩) n c0 l a c w (SlB.of_own hw (i := 1) rfl hl1 c1) (SlB.of_own hw (i := 2) rfl hl2 c2) (by rw [if_pos rfl]) (by omega) (SlB.of_own hw (i := 0) rfl hl c0) (SlB.of_own hw (i := 0) (l := l ++ List.replicate 8 165) (r := r0) (by show some _ = some _; rw [dg_append, List.append_assoc]) (by rw [List.length_append, hl]; rfl) c0) (SlB.later hw rfl hu) (by omega) hc0) ?_
    first | refine L_v rfl rfl rfl (V_pickT rfl rfl rfl) ?_ | refine L_v rfl rfl rfl (V_pickF rfl rfl rfl) ?_
    refine L_v rfl rfl rfl (V_assign rfl rfl) ?_
    refine L_nil ?_
    change J _ _ _ _
    refine J_ret ?_
    change Kret _ _ _ Exit.ret _
    refine ret1 rfl rfl (RV_t rfl) ?_
    exact fun w' h => ⟨rfl, h.fr⟩

theorem OctetCounts_out (a : Option Addr) (n c : Nat) (l : List Int) (m : Int) (w : World) (hu : SlB w (.slice a n c) l) (h : ¬ (0 ≤ m ∧ m ≤ 2147483647)) :
    Calls Try.prog 3 #[.slice a n c, .int .i64 m] w fun e w' => e = .returned (.bool true) ∧ Fr [] w w' := by
  have hl := hu.size
  refine calls_of (args := [.slice a n c, .int .i64 m]) ([]) ([]) ([]) Try.func3 rfl rfl (okW0 _ _ _ _) ?_
  refine J_seq ?_
  refine J_region ?_
  refine L_v rfl rfl rfl (V_assign rfl rfl) ?_
  refine L_nil ?_
  change J _ _ _ _
  refine J_seq ?_
  refine J_seq ?_
  refine J_region ?_
  refine L_v rfl rfl rfl (V_move rfl rfl) ?_
  refine L_v rfl rfl rfl (V_len rfl rfl Try.underlying22 rfl) ?_
  refine L_v rfl rfl rfl (V_gtr rfl rfl rfl (by first | exact decide_eq_true (by omega) | exact decide_eq_false (by omega) | rfl)) ?_
  refine L_nil ?_
  change J _ _ _ _
  refine J_cond rfl (fun h1 => ?_) (fun h1 => ?_)
  ·
    first | (have h1 := of_decide_eq_true h1) | (have h1 := of_decide_eq_false h1) | skip
    refine J_seq ?_
    refine J_region ?_
    refine L_v rfl rfl rfl (V_assign rfl rfl) ?_
    refine L_nil ?_
    change J _ _ _ _
    refine J_ret ?_
    change Kret _ _ _ Exit.ret _
    refine ret1 rfl rfl (RV_t rfl) ?_
    exact fun w' h => ⟨rfl, h.fr⟩
  ·
    first | (have h1 := of_decide_eq_true h1) | (have h1 := of_decide_eq_false h1) | skip
    refine J_skip ?_
    change J _ _ _ _
    refine J_seq ?_
    refine J_region ?_
    refine L_v rfl rfl rfl (V_move rfl rfl) ?_
    refine L_call rfl rfl rfl rfl tx10l (fun w hw => (lent_w a n c l w (SlB.later hw rfl hu) (by omega)).mono ?_)
    rintro e w' ⟨g0, r0, c0, rfl, hn0, hc0, hr0⟩
    refine ⟨_, _, _, rfl, hn0.okW hw, rfl, ?_⟩
    refine L_v rfl rfl rfl (V_assign rfl rfl) ?_
    refine L_nil ?_
    change J _ _ _ _
    refine J_seq ?_
    refine J_region ?_
    refine L_v rfl rfl rfl (V_move rfl rfl) ?_
    refine L_v rfl rfl rfl (V_move rfl rfl) ?_
    refine L_callV rfl rfl rfl rfl rfl rfl tx11l (fun w hw => putCount_no _ m w h) ?_
    refine L_v rfl rfl rfl (V_move rfl rfl) ?_
    refine L_v rfl rfl rfl (V_extract rfl rfl rfl) ?_
    refine L_v rfl rfl rfl (V_extract rfl rfl rfl) ?_
    refine L_v rfl rfl rfl (V_assign rfl rfl) ?_
    refine L_v rfl rfl rfl (V_assign rfl rfl) ?_
    refine L_nil ?_
    change J _ _ _ _
    refine J_seq ?_
    refine J_region ?_
    refine L_v rfl rfl rfl (V_move rfl rfl) ?_
    refine L_callV rfl rfl rfl rfl rfl rfl tx12l (fun w hw => count_no m w h) ?_
    refine L_v rfl rfl rfl (V_move rfl rfl) ?_
    refine L_v rfl rfl rfl (V_extract rfl rfl rfl) ?_
    refine L_v rfl rfl rfl (V_extract rfl rfl rfl) ?_
    refine L_v rfl rfl rfl (V_assign rfl rfl) ?_
    refine L_v rfl rfl rfl (V_assign rfl rfl) ?_
    refine L_nil ?_
    change J _ _ _ _
    refine J_seq ?_
    refine J_region ?_
    refine L_callV rfl rfl rfl rfl rfl rfl tx13l (fun w hw => puts_w w) ?_
    refine L_v rfl rfl rfl (V_move rfl rfl) ?_
    refine L_wv rfl rfl rfl rfl rfl rfl (V_move rfl rfl) ?_
    refine L_wv rfl rfl rfl rfl rfl rfl (V_move rfl rfl) ?_
    refine L_wv rfl rfl rfl rfl rfl rfl (V_move rfl rfl) ?_
    refine L_wv rfl rfl rfl rfl rfl rfl (V_move rfl rfl) ?_
    refine L_wv rfl rfl rfl rfl rfl rfl (V_move rfl rfl) ?_
    refine L_wv rfl rfl rfl rfl rfl rfl (V_move rfl rfl) ?_
    refine L_wcallV rfl rfl rfl rfl rfl rfl rfl rfl rfl tx14l (fun w hw => put_w none 0 0 [] 1 none 0 0 [] (some ⟨g0, 0, none⟩) n c0 l a c w (SlB.nil _ _) (SlB.nil _ _) (by rw [if_neg (by decide)]) (by omega) (SlB.of_own hw (i := 0) rfl hl c0) (SlB.of_own hw (i := 0) (l := l ++ List.replicate 8 165) (r := r0) (by show some _ = some _; rw [dg_append, List.append_assoc]) (by rw [List.length_append, hl]; rfl) c0) (SlB.later hw rfl hu) (by omega) hc0) ?_
    first | refine L_v rfl rfl rfl (V_pickT rfl rfl rfl) ?_ | refine L_v rfl rfl rfl (V_pickF rfl rfl rfl) ?_
    refine L_v rfl rfl rfl (V_assign rfl rfl) ?_
    refine L_nil ?_
    change J _ _ _ _
    refine J_ret ?_
    change Kret _ _ _ Exit.ret _
    refine ret1 rfl rfl (RV_t rfl) ?_
    exact fun w' h => ⟨rfl, h.fr⟩

theorem OctetCounts_w (v : Value) (l : List Int) (m : Int) (w : World) (hv : SlB w v l) (hb : Byt l) :
    Calls Try.prog 3 #[v, .int .i64 m] w fun e w' => e = .returned (.bool true) ∧ Fr [] w w' := by
  obtain ⟨a, c, rfl⟩ := hv.form
  by_cases h : 0 ≤ m ∧ m ≤ 2147483647
  · exact OctetCounts_in a l.length c l m w hv h.1 h.2
  · exact OctetCounts_out a l.length c l m w hv h

end Go.Proofs.Ytjaepffehaendaa
