/- What the law comes to. -/
import Derived.Test.YtjaepffehaendaaOctetPut
set_option linter.unusedVariables false
set_option linter.unusedSimpArgs false
set_option maxRecDepth 100000
namespace Go.Proofs.Ytjaepffehaendaa
open Go.Sx
theorem sz5l : (Try.prog.info? 5).map (·.size) = some 1 := by kernel_rfl
theorem sz32l : (Try.prog.info? 32).map (·.size) = some 32 := by kernel_rfl
theorem tx10l : Txt Try.prog 10 := txt_of Try.func10 rfl (by kernel_rfl)
theorem tx13l : Txt Try.prog 13 := txt_of Try.func13 rfl (by kernel_rfl)
theorem tx14l : Txt Try.prog 14 := txt_of Try.func14 rfl (by kernel_rfl)
theorem tx15l : Txt Try.prog 15 := txt_of Try.func15 rfl (by kernel_rfl)
theorem tx16l : Txt Try.prog 16 := txt_of Try.func16 rfl (by kernel_rfl)
theorem tx17l : Txt Try.prog 17 := txt_of Try.func17 rfl (by kernel_rfl)

theorem OctetBytes_in (a : Option Addr) (n c : Nat) (l : List Int) (s : ByteArray) (d : List Int) (w : World) (hu : SlB w (.slice a n c) l) (hd : d.length = 32) (hs : s.size ≤ 65536) :
    Calls Try.prog 4 #[.slice a n c, .string s, .agg (dg d).toArray] w fun e w' => e = .returned (.bool true) ∧ Fr [] w w' := by
  have hl := hu.size
  have hgl := grp_len s.size
  have hbl := bs_length s
  refine calls_of (args := [.slice a n c, .string s, .agg (dg d).toArray]) ([]) ([]) ([]) Try.func4 rfl rfl (okW0 _ _ _ _) ?_
  refine J_seq ?_
  refine J_region ?_
  refine L_box rfl rfl rfl rfl rfl (fun b0 => ?_)
  refine L_v rfl rfl rfl (V_assign rfl rfl) ?_
  refine L_nil ?_
  change J _ _ _ _
  refine J_seq ?_
  refine J_seq ?_
  refine J_region ?_
  refine L_v rfl rfl rfl (V_move rfl rfl) ?_
  refine L_v rfl rfl rfl (V_len rfl rfl Try.underlying22 rfl) ?_
  refine L_v rfl rfl rfl (V_gtr rfl rfl rfl (by first | exact decide_eq_true (by omega) | exact decide_eq_false (by omega) | rfl)) ?_
  refine L_v rfl rfl rfl (V_move rfl rfl) ?_
  refine L_split 17 rfl (fun h1 => ?_) (fun h1 => ?_)
  ·
    first | (have h1 := of_decide_eq_true h1) | (have h1 := of_decide_eq_false h1) | skip
    refine L_skip rfl rfl rfl rfl rfl rfl rfl ?_
    refine L_skip rfl rfl rfl rfl rfl rfl rfl ?_
    refine L_skip rfl rfl rfl rfl rfl rfl rfl ?_
    first | refine L_v rfl rfl rfl (V_pickT rfl rfl rfl) ?_ | refine L_v rfl rfl rfl (V_pickF rfl rfl rfl) ?_
    refine L_nil ?_
    change J _ _ _ _
    refine J_true rfl ?_
    refine J_seq ?_
    refine J_region ?_
    refine L_v rfl rfl rfl (V_assign rfl rfl) ?_
    refine L_nil ?_
    change J _ _ _ _
    refine J_ret ?_
    change Kret _ _ _ Exit.ret _
    refine ret1 rfl rfl (RV_t rfl) ?_
    exact fun w' h => ⟨rfl, h.fr⟩
  ·
    first | (have h1 := of_decide_eq_true h1) | (have h1 := of_decide_eq_false h1) | skip
    refine L_wv rfl rfl rfl rfl rfl rfl (V_move rfl rfl) ?_
    refine L_wv rfl rfl rfl rfl rfl rfl (V_lenS rfl rfl Try.underlying9 rfl) ?_
    refine L_wv rfl rfl rfl rfl rfl rfl (V_gtr rfl rfl rfl (by first | exact decide_eq_true (by omega) | exact decide_eq_false (by omega) | rfl)) ?_
    first | refine L_v rfl rfl rfl (V_pickT rfl rfl rfl) ?_ | refine L_v rfl rfl rfl (V_pickF rfl rfl rfl) ?_
    refine L_nil ?_
    change J _ _ _ _
    refine J_false rfl ?_
    refine J_skip ?_
    change J _ _ _ _
    refine J_seq ?_
    refine J_region ?_
    refine L_v rfl rfl rfl (V_move rfl rfl) ?_
    refine L_call rfl rfl rfl rfl tx10l (fun w hw => (lent_w a n c l w (SlB.later hw rfl hu) (by omega)).mono ?_)
    rintro e w' ⟨g0, r0, c0, rfl, hn0, hc0, hr0⟩
    refine ⟨_, _, _, rfl, hn0.okW hw, rfl, ?_⟩
    refine L_v rfl rfl rfl (V_assign rfl rfl) ?_
    refine L_nil ?_
    change J _ _ _ _
    refine J_seq ?_
    refine J_region ?_
    refine L_v rfl rfl rfl (V_move rfl rfl) ?_
    refine L_v rfl rfl rfl (V_move rfl rfl) ?_
    refine L_callB rfl rfl rfl rfl rfl rfl tx15l (fun w hw => putBytes_ok (some ⟨g0, 0, none⟩) n c0 l s w (SlB.of_own hw (i := 1) rfl hl c0) (by omega) (by omega) hs) (fun g1 r1 c1 hl1 hc1 hr1 => ?_)
    refine L_v rfl rfl rfl (V_move rfl rfl) ?_
    refine L_v rfl rfl rfl (V_extract rfl rfl rfl) ?_
    refine L_v rfl rfl rfl (V_extract rfl rfl rfl) ?_
    refine L_v rfl rfl rfl (V_assign rfl rfl) ?_
    refine L_v rfl rfl rfl (V_assign rfl rfl) ?_
    refine L_nil ?_
    change J _ _ _ _
    refine J_seq ?_
    refine J_region ?_
    refine L_v rfl rfl rfl (V_move rfl rfl) ?_
    refine L_callB rfl rfl rfl rfl rfl rfl tx16l (fun w hw => refB_ok s w hs) (fun g2 r2 c2 hl2 hc2 hr2 => ?_)
    refine L_v rfl rfl rfl (V_move rfl rfl) ?_
    refine L_v rfl rfl rfl (V_extract rfl rfl rfl) ?_
    refine L_v rfl rfl rfl (V_extract rfl rfl rfl) ?_
    refine L_v rfl rfl rfl (V_assign rfl rfl) ?_
    refine L_v rfl rfl rfl (V_assign rfl rfl) ?_
    refine L_nil ?_
    change J _ _ _ _
    refine J_seq ?_
    refine J_region ?_
    refine L_v rfl rfl rfl (V_move rfl rfl) ?_
    refine L_call rfl rfl rfl rfl tx10l (fun w hw => (lent_w a n c l w (SlB.later hw rfl hu) (by omega)).mono ?_)
    rintro e w' ⟨g3, r3, c3, rfl, hn3, hc3, hr3⟩
    refine ⟨_, _, _, rfl, hn3.okW hw, rfl, ?_⟩
    refine L_v rfl rfl rfl (V_assign rfl rfl) ?_
    refine L_nil ?_
    change J _ _ _ _
    refine J_seq ?_
    refine J_region ?_
    refine L_v rfl rfl rfl (V_move rfl rfl) ?_
    refine L_v rfl rfl rfl (V_loadW 0 rfl rfl rfl Try.underlying32 rfl (szd sz32l (by simp [dg_length, *]))) ?_
    refine L_callB rfl rfl rfl rfl rfl rfl tx17l (fun w hw => putDigest_w (some ⟨g3, 0, none⟩) n c3 l d w (SlB.of_own hw (i := 4) rfl hl c3) (by omega) (by omega) hd) (fun g4 r4 c4 hl4 hc4 hr4 => ?_)
    refine L_v rfl rfl rfl (V_assign rfl rfl) ?_
    refine L_nil ?_
    change J _ _ _ _
    refine J_seq ?_
    refine J_region ?_
    refine L_callV rfl rfl rfl rfl rfl rfl tx13l (fun w hw => puts_w w) ?_
    refine L_v rfl rfl rfl (V_move rfl rfl) ?_
    refine L_wv rfl rfl rfl rfl rfl rfl (V_move rfl rfl) ?_
    refine L_wv rfl rfl rfl rfl rfl rfl (V_move rfl rfl) ?_
    refine L_wv rfl rfl rfl rfl rfl rfl (V_move rfl rfl) ?_
    refine L_wv rfl rfl rfl rfl rfl rfl (V_move rfl rfl) ?_
    refine L_wv rfl rfl rfl rfl rfl rfl (V_move rfl rfl) ?_
    refine L_wv rfl rfl rfl rfl rfl rfl (V_move rfl rfl) ?_
    refine L_wcallV rfl rfl rfl rfl rfl rfl rfl rfl rfl tx14l (fun w hw => put_w (some ⟨g1, 0, none⟩) (n + (grp s.size).length + s.size) c1 (l ++ (grp s.size ++ bs s)) 0 (some ⟨g2, 0, none⟩) (grp s.size ++ bs s).length c2 (grp s.size ++ bs s) (some ⟨g0, 0, none⟩) n c0 l a c w (SlB.of_own hw (i := 2) rfl hl1 c1) (SlB.of_own hw (i := 3) rfl hl2 c2) (by rw [if_pos rfl]) (by first | omega | (simp only [List.length_append]; omega)) (SlB.of_own hw (i := 1) rfl hl c0) (SlB.of_own hw (i := 1) (l := l ++ List.replicate 8 165) (r := r0) (by show some _ = some _; rw [dg_append, List.append_assoc]) (by rw [List.length_append, hl]; rfl) c0) (SlB.later hw rfl hu) (by omega) hc0) ?_
    first | refine L_v rfl rfl rfl (V_pickT rfl rfl rfl) ?_ | refine L_v rfl rfl rfl (V_pickF rfl rfl rfl) ?_
    refine L_v rfl rfl rfl (V_move rfl rfl) ?_
    refine L_wv rfl rfl rfl rfl rfl rfl (V_move rfl rfl) ?_
    refine L_wv rfl rfl rfl rfl rfl rfl (V_move rfl rfl) ?_
    refine L_wv rfl rfl rfl rfl rfl rfl (V_move rfl rfl) ?_
    refine L_wv rfl rfl rfl rfl rfl rfl (V_sliceArr rfl rfl Try.underlying32 sz5l) ?_
    refine L_wcallV rfl rfl rfl rfl rfl rfl rfl rfl rfl tx14l (fun w hw => put_w (some ⟨g4, 0, none⟩) (n + 32) c4 (l ++ d) 0 (some ⟨b0, 0, none⟩) 32 32 d (some ⟨g3, 0, none⟩) n c3 l a c w (SlB.of_own hw (i := 5) rfl hl4 c4) (SlB.of_mem' hw (i := 0) rfl hd 32) (by rw [if_pos rfl]) (by first | omega | (simp only [List.length_append]; omega)) (SlB.of_own hw (i := 4) rfl hl c3) (SlB.of_own hw (i := 4) (l := l ++ List.replicate 8 165) (r := r3) (by show some _ = some _; rw [dg_append, List.append_assoc]) (by rw [List.length_append, hl]; rfl) c3) (SlB.later hw rfl hu) (by omega) hc3) ?_
    first | refine L_v rfl rfl rfl (V_pickT rfl rfl rfl) ?_ | refine L_v rfl rfl rfl (V_pickF rfl rfl rfl) ?_
    refine L_v rfl rfl rfl (V_assign rfl rfl) ?_
    refine L_nil ?_
    change J _ _ _ _
    refine J_ret ?_
    change Kret _ _ _ Exit.ret _
    refine ret1 rfl rfl (RV_t rfl) ?_
    exact fun w' h => ⟨rfl, h.fr⟩

theorem OctetBytes_out (a : Option Addr) (n c : Nat) (l : List Int) (s : ByteArray) (d : List Int) (w : World) (hu : SlB w (.slice a n c) l) (hd : d.length = 32) (hs : ¬ s.size ≤ 65536) :
    Calls Try.prog 4 #[.slice a n c, .string s, .agg (dg d).toArray] w fun e w' => e = .returned (.bool true) ∧ Fr [] w w' := by
  have hl := hu.size
  refine calls_of (args := [.slice a n c, .string s, .agg (dg d).toArray]) ([]) ([]) ([]) Try.func4 rfl rfl (okW0 _ _ _ _) ?_
  refine J_seq ?_
  refine J_region ?_
  refine L_box rfl rfl rfl rfl rfl (fun b0 => ?_)
  refine L_v rfl rfl rfl (V_assign rfl rfl) ?_
  refine L_nil ?_
  change J _ _ _ _
  refine J_seq ?_
  refine J_seq ?_
  refine J_region ?_
  refine L_v rfl rfl rfl (V_move rfl rfl) ?_
  refine L_v rfl rfl rfl (V_len rfl rfl Try.underlying22 rfl) ?_
  refine L_v rfl rfl rfl (V_gtr rfl rfl rfl (by first | exact decide_eq_true (by omega) | exact decide_eq_false (by omega) | rfl)) ?_
  refine L_v rfl rfl rfl (V_move rfl rfl) ?_
  refine L_split 17 rfl (fun h1 => ?_) (fun h1 => ?_)
  ·
    first | (have h1 := of_decide_eq_true h1) | (have h1 := of_decide_eq_false h1) | skip
    refine L_skip rfl rfl rfl rfl rfl rfl rfl ?_
    refine L_skip rfl rfl rfl rfl rfl rfl rfl ?_
    refine L_skip rfl rfl rfl rfl rfl rfl rfl ?_
    first | refine L_v rfl rfl rfl (V_pickT rfl rfl rfl) ?_ | refine L_v rfl rfl rfl (V_pickF rfl rfl rfl) ?_
    refine L_nil ?_
    change J _ _ _ _
    refine J_true rfl ?_
    refine J_seq ?_
    refine J_region ?_
    refine L_v rfl rfl rfl (V_assign rfl rfl) ?_
    refine L_nil ?_
    change J _ _ _ _
    refine J_ret ?_
    change Kret _ _ _ Exit.ret _
    refine ret1 rfl rfl (RV_t rfl) ?_
    exact fun w' h => ⟨rfl, h.fr⟩
  ·
    first | (have h1 := of_decide_eq_true h1) | (have h1 := of_decide_eq_false h1) | skip
    refine L_wv rfl rfl rfl rfl rfl rfl (V_move rfl rfl) ?_
    refine L_wv rfl rfl rfl rfl rfl rfl (V_lenS rfl rfl Try.underlying9 rfl) ?_
    refine L_wv rfl rfl rfl rfl rfl rfl (V_gtr rfl rfl rfl (by first | exact decide_eq_true (by omega) | exact decide_eq_false (by omega) | rfl)) ?_
    first | refine L_v rfl rfl rfl (V_pickT rfl rfl rfl) ?_ | refine L_v rfl rfl rfl (V_pickF rfl rfl rfl) ?_
    refine L_nil ?_
    change J _ _ _ _
    refine J_cond rfl (fun h2 => ?_) (fun h2 => ?_)
    ·
      first | (have h2 := of_decide_eq_true h2) | (have h2 := of_decide_eq_false h2) | skip
      refine J_seq ?_
      refine J_region ?_
      refine L_v rfl rfl rfl (V_assign rfl rfl) ?_
      refine L_nil ?_
      change J _ _ _ _
      refine J_ret ?_
      change Kret _ _ _ Exit.ret _
      refine ret1 rfl rfl (RV_t rfl) ?_
      exact fun w' h => ⟨rfl, h.fr⟩
    ·
      first | (have h2 := of_decide_eq_true h2) | (have h2 := of_decide_eq_false h2) | skip
      refine J_skip ?_
      change J _ _ _ _
      refine J_seq ?_
      refine J_region ?_
      refine L_v rfl rfl rfl (V_move rfl rfl) ?_
      refine L_call rfl rfl rfl rfl tx10l (fun w hw => (lent_w a n c l w (SlB.later hw rfl hu) (by omega)).mono ?_)
      rintro e w' ⟨g0, r0, c0, rfl, hn0, hc0, hr0⟩
      refine ⟨_, _, _, rfl, hn0.okW hw, rfl, ?_⟩
      refine L_v rfl rfl rfl (V_assign rfl rfl) ?_
      refine L_nil ?_
      change J _ _ _ _
      refine J_seq ?_
      refine J_region ?_
      refine L_v rfl rfl rfl (V_move rfl rfl) ?_
      refine L_v rfl rfl rfl (V_move rfl rfl) ?_
      refine L_callV rfl rfl rfl rfl rfl rfl tx15l (fun w hw => putBytes_no _ s w hs) ?_
      refine L_v rfl rfl rfl (V_move rfl rfl) ?_
      refine L_v rfl rfl rfl (V_extract rfl rfl rfl) ?_
      refine L_v rfl rfl rfl (V_extract rfl rfl rfl) ?_
      refine L_v rfl rfl rfl (V_assign rfl rfl) ?_
      refine L_v rfl rfl rfl (V_assign rfl rfl) ?_
      refine L_nil ?_
      change J _ _ _ _
      refine J_seq ?_
      refine J_region ?_
      refine L_v rfl rfl rfl (V_move rfl rfl) ?_
      refine L_callV rfl rfl rfl rfl rfl rfl tx16l (fun w hw => refB_no s w hs) ?_
      refine L_v rfl rfl rfl (V_move rfl rfl) ?_
      refine L_v rfl rfl rfl (V_extract rfl rfl rfl) ?_
      refine L_v rfl rfl rfl (V_extract rfl rfl rfl) ?_
      refine L_v rfl rfl rfl (V_assign rfl rfl) ?_
      refine L_v rfl rfl rfl (V_assign rfl rfl) ?_
      refine L_nil ?_
      change J _ _ _ _
      refine J_seq ?_
      refine J_region ?_
      refine L_v rfl rfl rfl (V_move rfl rfl) ?_
      refine L_call rfl rfl rfl rfl tx10l (fun w hw => (lent_w a n c l w (SlB.later hw rfl hu) (by omega)).mono ?_)
      rintro e w' ⟨g3, r3, c3, rfl, hn3, hc3, hr3⟩
      refine ⟨_, _, _, rfl, hn3.okW hw, rfl, ?_⟩
      refine L_v rfl rfl rfl (V_assign rfl rfl) ?_
      refine L_nil ?_
      change J _ _ _ _
      refine J_seq ?_
      refine J_region ?_
      refine L_v rfl rfl rfl (V_move rfl rfl) ?_
      refine L_v rfl rfl rfl (V_loadW 0 rfl rfl rfl Try.underlying32 rfl (szd sz32l (by simp [dg_length, *]))) ?_
      refine L_callB rfl rfl rfl rfl rfl rfl tx17l (fun w hw => putDigest_w (some ⟨g3, 0, none⟩) n c3 l d w (SlB.of_own hw (i := 2) rfl hl c3) (by omega) (by omega) hd) (fun g4 r4 c4 hl4 hc4 hr4 => ?_)
      refine L_v rfl rfl rfl (V_assign rfl rfl) ?_
      refine L_nil ?_
      change J _ _ _ _
      refine J_seq ?_
      refine J_region ?_
      refine L_callV rfl rfl rfl rfl rfl rfl tx13l (fun w hw => puts_w w) ?_
      refine L_v rfl rfl rfl (V_move rfl rfl) ?_
      refine L_wv rfl rfl rfl rfl rfl rfl (V_move rfl rfl) ?_
      refine L_wv rfl rfl rfl rfl rfl rfl (V_move rfl rfl) ?_
      refine L_wv rfl rfl rfl rfl rfl rfl (V_move rfl rfl) ?_
      refine L_wv rfl rfl rfl rfl rfl rfl (V_move rfl rfl) ?_
      refine L_wv rfl rfl rfl rfl rfl rfl (V_move rfl rfl) ?_
      refine L_wv rfl rfl rfl rfl rfl rfl (V_move rfl rfl) ?_
      refine L_wcallV rfl rfl rfl rfl rfl rfl rfl rfl rfl tx14l (fun w hw => put_w none 0 0 [] 2 none 0 0 [] (some ⟨g0, 0, none⟩) n c0 l a c w (SlB.nil _ _) (SlB.nil _ _) (by rw [if_neg (by decide)]) (by first | omega | (simp only [List.length_append]; omega)) (SlB.of_own hw (i := 1) rfl hl c0) (SlB.of_own hw (i := 1) (l := l ++ List.replicate 8 165) (r := r0) (by show some _ = some _; rw [dg_append, List.append_assoc]) (by rw [List.length_append, hl]; rfl) c0) (SlB.later hw rfl hu) (by omega) hc0) ?_
      first | refine L_v rfl rfl rfl (V_pickT rfl rfl rfl) ?_ | refine L_v rfl rfl rfl (V_pickF rfl rfl rfl) ?_
      refine L_v rfl rfl rfl (V_move rfl rfl) ?_
      refine L_wv rfl rfl rfl rfl rfl rfl (V_move rfl rfl) ?_
      refine L_wv rfl rfl rfl rfl rfl rfl (V_move rfl rfl) ?_
      refine L_wv rfl rfl rfl rfl rfl rfl (V_move rfl rfl) ?_
      refine L_wv rfl rfl rfl rfl rfl rfl (V_sliceArr rfl rfl Try.underlying32 sz5l) ?_
      refine L_wcallV rfl rfl rfl rfl rfl rfl rfl rfl rfl tx14l (fun w hw => put_w (some ⟨g4, 0, none⟩) (n + 32) c4 (l ++ d) 0 (some ⟨b0, 0, none⟩) 32 32 d (some ⟨g3, 0, none⟩) n c3 l a c w (SlB.of_own hw (i := 3) rfl hl4 c4) (SlB.of_mem' hw (i := 0) rfl hd 32) (by rw [if_pos rfl]) (by first | omega | (simp only [List.length_append]; omega)) (SlB.of_own hw (i := 2) rfl hl c3) (SlB.of_own hw (i := 2) (l := l ++ List.replicate 8 165) (r := r3) (by show some _ = some _; rw [dg_append, List.append_assoc]) (by rw [List.length_append, hl]; rfl) c3) (SlB.later hw rfl hu) (by omega) hc3) ?_
      first | refine L_v rfl rfl rfl (V_pickT rfl rfl rfl) ?_ | refine L_v rfl rfl rfl (V_pickF rfl rfl rfl) ?_
      refine L_v rfl rfl rfl (V_assign rfl rfl) ?_
      refine L_nil ?_
      change J _ _ _ _
      refine J_ret ?_
      change Kret _ _ _ Exit.ret _
      refine ret1 rfl rfl (RV_t rfl) ?_
      exact fun w' h => ⟨rfl, h.fr⟩

theorem OctetBytes_w (v : Value) (l : List Int) (s : ByteArray) (d : List Int) (w : World) (hd : d.length = 32) (hv : SlB w v l) (hb : Byt l) (hdb : Byt d) :
    Calls Try.prog 4 #[v, .string s, .agg (dg d).toArray] w fun e w' => e = .returned (.bool true) ∧ Fr [] w w' := by
  obtain ⟨a, c, rfl⟩ := hv.form
  by_cases hs : s.size ≤ 65536
  · exact OctetBytes_in a l.length c l s d w hv hd hs
  · exact OctetBytes_out a l.length c l s d w hv hd hs

end Go.Proofs.Ytjaepffehaendaa
