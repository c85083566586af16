/- What a law of layer 8 comes to. -/
import Derived.Test.YtfgcfjojpakpjaaWLaw
import Derived.Test.YtfgcfjojpakpjaaWOpenD
set_option linter.unusedVariables false
set_option linter.unusedSimpArgs false
set_option maxRecDepth 100000
namespace Go.Proofs.Ytfgcfjojpakpjaa
open Go.Sx
theorem dfx_mem {a b c : Fact} {x : List Fact} : ∀ f ∈ (a :: b :: c :: x), f ∈ (a :: x) ++ [b] ++ [c] := by
  intro f hf
  simp only [List.mem_append, List.mem_cons, List.not_mem_nil, or_false] at hf ⊢
  rcases hf with h | h | h | h
  · exact .inl (.inl (.inl h))
  · exact .inl (.inr h)
  · exact .inr h
  · exact .inl (.inl (.inr h))
theorem smU_mem {us : List (Us × Value)} (h : smU us us.length ≤ 5000) : ∀ p ∈ us, p.1.2.length ≤ 1099511627776 := fun p hp => by
  obtain ⟨i, hi⟩ := List.mem_iff_getElem?.1 hp
  have hlt := (List.getElem?_eq_some_iff.1 hi).1
  have := smU_each h hlt
  rw [List.getD_eq_getElem?_getD, hi] at this
  exact Nat.le_trans this (by decide)
theorem dr_len (e0 : Int) (us : List (Us × Value)) (hs : List Hd) (ss : List Se) : (drC.tk (e0, us.map Prod.fst, hs, ss)).length = 4 + ((us.map Prod.fst).flatMap usC.tk).length + 3 * hs.length + 4 * ss.length := by
  rw [← tkD_all, tkL_len (c := 4) (fun _ => rfl) (Nat.le_refl _), tkL_len (c := 3) (fun _ => rfl) (Nat.le_refl _), tkD1_len]
  omega
theorem sz60s : (Try.prog.info? 60).map (·.size) = some 4 := by kernel_rfl
theorem tx11s : Txt Try.prog 11 := txt_of Try.func11 rfl (by kernel_rfl)
theorem tx24s : Txt Try.prog 24 := txt_of Try.func24 rfl (by kernel_rfl)
theorem tx25s : Txt Try.prog 25 := txt_of Try.func25 rfl (by kernel_rfl)
theorem tx26s : Txt Try.prog 26 := txt_of Try.func26 rfl (by kernel_rfl)
theorem tx27s : Txt Try.prog 27 := txt_of Try.func27 rfl (by kernel_rfl)
theorem tx28s : Txt Try.prog 28 := txt_of Try.func28 rfl (by kernel_rfl)
theorem tx29s : Txt Try.prog 29 := txt_of Try.func29 rfl (by kernel_rfl)
theorem tx30s : Txt Try.prog 30 := txt_of Try.func30 rfl (by kernel_rfl)
theorem z60s : (Try.prog.info? 60).bind (·.zero) = some (.agg [.int .i64 0, .slice none 0 0, .slice none 0 0, .slice none 0 0].toArray) := by kernel_rfl

set_option maxHeartbeats 2000000 in
theorem WireDirectories0_w (va1 va2 va3 : Option Addr) (vc1 vc2 vc3 : Nat) (e0 : Int) (us : List (Us × Value)) (hs : List Hd) (ss : List Se) (w : World) (hs0 : FW w (factC 2 (.slice va1 us.length vc1) us.length (us.map usW).flatten :: factC 65 (.slice va2 hs.length vc2) hs.length (hs.map hdV).flatten :: factC 4 (.slice va3 ss.length vc3) ss.length (ss.map seV).flatten :: us.map usF)) (hb : TB drC (e0, us.map Prod.fst, hs, ss)) :
    Calls Try.prog 6 #[.agg (drV e0 (.slice va1 us.length vc1) (.slice va2 hs.length vc2) (.slice va3 ss.length vc3)).toArray] w fun e w' => e = .returned (.bool true) ∧ Fr [] w w' := by
  refine calls_of (args := [.agg (drV e0 (.slice va1 us.length vc1) (.slice va2 hs.length vc2) (.slice va3 ss.length vc3)).toArray]) ([]) ([]) (factC 2 (.slice va1 us.length vc1) us.length (us.map usW).flatten :: factC 65 (.slice va2 hs.length vc2) hs.length (hs.map hdV).flatten :: factC 4 (.slice va3 ss.length vc3) ss.length (ss.map seV).flatten :: us.map usF) Try.func6 rfl rfl (okFW hs0) ?_
  by_cases hbg : bigD us hs ss
  ·
    refine J_seq ?_
    refine J_region ?_
    refine L_box rfl rfl rfl rfl rfl (fun b0 => ?_)
    refine L_v rfl rfl rfl (V_assign rfl rfl) ?_
    refine L_nil ?_
    change J _ _ _ _
    refine J_seq ?_
    refine J_seq ?_
    refine J_region ?_
    refine L_v rfl rfl rfl (V_loadW 0 rfl rfl rfl Try.underlying60 rfl (szd sz60s rfl)) ?_
    refine L_callV rfl rfl rfl rfl rfl rfl tx24s (fun w1 hw => bigd_t va1 va2 va3 vc1 vc2 vc3 e0 us hs ss w1 (OkW.fw hw (fun f hf => hf)) hbg) ?_
    refine L_nil ?_
    change J _ _ _ _
    refine J_true rfl ?_
    refine J_seq ?_
    refine J_region ?_
    refine L_v rfl rfl rfl (V_assign rfl rfl) ?_
    refine L_nil ?_
    change J _ _ _ _
    refine J_ret ?_
    change Kret _ _ _ Exit.ret _
    refine ret1 rfl rfl (RV_t rfl) ?_
    exact fun w' h => ⟨rfl, h.fr⟩
  ·
    have hbs : us.length ≤ 5000 ∧ hs.length ≤ 5000 ∧ ss.length ≤ 5000 ∧ smU us us.length ≤ 5000 := by refine ⟨?_, ?_, ?_, ?_⟩ <;> (apply Nat.le_of_not_lt; intro h; exact hbg (by first | exact .inl h | exact .inr (.inl h) | exact .inr (.inr (.inl h)) | exact .inr (.inr (.inr h))))
    have hFl := smU_all hbs.2.2.2
    have hT := dr_len e0 us hs ss
    refine J_seq ?_
    refine J_region ?_
    refine L_box rfl rfl rfl rfl rfl (fun b0 => ?_)
    refine L_v rfl rfl rfl (V_assign rfl rfl) ?_
    refine L_nil ?_
    change J _ _ _ _
    refine J_seq ?_
    refine J_seq ?_
    refine J_region ?_
    refine L_v rfl rfl rfl (V_loadW 0 rfl rfl rfl Try.underlying60 rfl (szd sz60s rfl)) ?_
    refine L_callV rfl rfl rfl rfl rfl rfl tx24s (fun w1 hw => bigd_f va1 va2 va3 vc1 vc2 vc3 e0 us hs ss w1 (OkW.fw hw (fun f hf => hf)) hbg) ?_
    refine L_nil ?_
    change J _ _ _ _
    refine J_false rfl ?_
    rcases hE : encTs (drC.tk (e0, us.map Prod.fst, hs, ss)) with k | M
    ·
      have hk0 : k ≠ 0 := by rcases encTs_err hE with h | h <;> omega
      refine J_skip ?_
      change J _ _ _ _
      refine J_seq ?_
      refine J_region ?_
      refine L_v rfl rfl rfl (V_loadW 0 rfl rfl rfl Try.underlying60 rfl (szd sz60s rfl)) ?_
      refine L_call rfl rfl rfl rfl tx25s (fun w1 hw => (own_w0 va1 va2 va3 vc1 vc2 vc3 e0 us hs ss w1 (OkW.fw hw (fun f hf => hf)) hbs.1 hbs.2.1 hbs.2.2.1 hbs.2.2.2).mono ?_)
      rintro e w' ⟨hfr, v, fs, rfl, hV, hfO⟩
      obtain ⟨us2, wa1, wc1, wa2, wc2, wa3, wc3, hus, rfl, rfl⟩ := hV
      replace hus : us2.map Prod.fst = us.map Prod.fst := hus
      refine ⟨_, _, _, rfl, OkW.fr0F hw hfr hfO, rfl, ?_⟩
      refine L_alloc rfl rfl rfl rfl z60s (fun b1 => ?_)
      refine L_storeW 1 rfl rfl rfl rfl rfl rfl (szd sz60s rfl) (all_one (by kernel_rfl)) rfl ?_
      refine L_nil ?_
      change J _ _ _ _
      refine J_seq ?_
      refine J_region ?_
      refine L_v rfl rfl rfl (V_loadW 0 rfl rfl rfl Try.underlying60 rfl (szd sz60s rfl)) ?_
      refine L_call rfl rfl rfl rfl tx26s (fun w1 hw => (putdirectory_w va1 va2 va3 vc1 vc2 vc3 e0 us hs ss w1 (OkW.fw hw (fun f hf => List.mem_append_left _ (hf))) (by omega)).mono ?_)
      rw [hE]
      rintro e w' ⟨hfr, rfl⟩
      refine ⟨_, _, _, rfl, hw.fr0 hfr, rfl, ?_⟩
      refine L_v rfl rfl rfl (V_move rfl rfl) ?_
      refine L_v rfl rfl rfl (V_extract rfl rfl rfl) ?_
      refine L_v rfl rfl rfl (V_extract rfl rfl rfl) ?_
      refine L_v rfl rfl rfl (V_assign rfl rfl) ?_
      refine L_v rfl rfl rfl (V_assign rfl rfl) ?_
      refine L_nil ?_
      change J _ _ _ _
      refine J_seq ?_
      refine J_region ?_
      refine L_v rfl rfl rfl (V_loadW 1 rfl rfl rfl Try.underlying60 rfl (szd sz60s rfl)) ?_
      refine L_call rfl rfl rfl rfl tx27s (fun w1 hw => (rputdirectory_w wa1 wa2 wa3 wc1 wc2 wc3 e0 us2 hs ss w1 (OkW.fw hw (fun f hf => List.mem_append_right _ (dfx_mem f hf))) (by rw [hus]; omega)).mono ?_)
      rw [hus, hE]
      rintro e w' ⟨hfr, rfl⟩
      refine ⟨_, _, _, rfl, hw.fr0 hfr, rfl, ?_⟩
      refine L_v rfl rfl rfl (V_move rfl rfl) ?_
      refine L_v rfl rfl rfl (V_extract rfl rfl rfl) ?_
      refine L_v rfl rfl rfl (V_extract rfl rfl rfl) ?_
      refine L_v rfl rfl rfl (V_assign rfl rfl) ?_
      refine L_v rfl rfl rfl (V_assign rfl rfl) ?_
      refine L_nil ?_
      change J _ _ _ _
      refine J_seq ?_
      refine J_seq ?_
      refine J_region ?_
      refine L_v rfl rfl rfl (V_move rfl rfl) ?_
      refine L_v rfl rfl rfl (V_move rfl rfl) ?_
      refine L_v rfl rfl rfl (V_move rfl rfl) ?_
      refine L_v rfl rfl rfl (V_move rfl rfl) ?_
      refine L_callV rfl rfl rfl rfl rfl rfl tx11s (fun w1 hw => laid_t nilB nilB [] k w1 (SlB.nil _ _) (SlB.nil _ _)) ?_
      refine L_v rfl rfl rfl (V_not rfl rfl rfl) ?_
      refine L_v rfl rfl rfl (V_move rfl rfl) ?_
      refine L_wv rfl rfl rfl rfl rfl rfl (V_loadW 0 rfl rfl rfl Try.underlying60 rfl (szd sz60s rfl)) ?_
      refine L_wv rfl rfl rfl rfl rfl rfl (V_loadW 1 rfl rfl rfl Try.underlying60 rfl (szd sz60s rfl)) ?_
      refine L_wcallV rfl rfl rfl rfl rfl rfl rfl rfl rfl tx28s (fun w1 hw => samedr_t va1 va2 va3 wa1 wa2 wa3 vc1 vc2 vc3 wc1 wc2 wc3 e0 us us2 hs ss w1 hus (OkW.fw hw (fun f hf => List.mem_append_left _ (hf))) (OkW.fw hw (fun f hf => List.mem_append_right _ (dfx_mem f hf))) (smU_mem hbs.2.2.2) (by omega) (by omega) (by omega)) ?_
      refine L_wv rfl rfl rfl rfl rfl rfl (V_not rfl rfl rfl) ?_
      first | refine L_v rfl rfl rfl (V_pickT rfl rfl rfl) ?_ | refine L_v rfl rfl rfl (V_pickF rfl rfl rfl) ?_
      refine L_nil ?_
      change J _ _ _ _
      refine J_false rfl ?_
      refine J_skip ?_
      change J _ _ _ _
      refine J_seq ?_
      refine J_region ?_
      refine L_v rfl rfl rfl (V_move rfl rfl) ?_
      refine L_call rfl rfl rfl rfl tx29s (fun w1 hw => (getdirectory_w none 0 0 [] w1 (SlB.nil _ _) byt0 (Nat.le_refl 0) (by decide)).mono ?_)
      rw [getW_dr0]
      rintro e w' ⟨hfr, rfl⟩
      refine ⟨_, _, _, rfl, hw.fr0 hfr, rfl, ?_⟩
      refine L_v rfl rfl rfl (V_move rfl rfl) ?_
      refine L_v rfl rfl rfl (V_extract rfl rfl rfl) ?_
      refine L_v rfl rfl rfl (V_extract rfl rfl rfl) ?_
      refine L_alloc rfl rfl rfl rfl z60s (fun b2 => ?_)
      refine L_storeW 2 rfl rfl rfl rfl rfl rfl (szd sz60s rfl) (all_one (by kernel_rfl)) rfl ?_
      refine L_v rfl rfl rfl (V_assign rfl rfl) ?_
      refine L_nil ?_
      change J _ _ _ _
      refine J_seq ?_
      refine J_region ?_
      refine L_callV rfl rfl rfl rfl rfl rfl tx30s (fun w1 hw => directories_t w1) ?_
      refine L_v rfl rfl rfl (V_move rfl rfl) ?_
      refine L_wv rfl rfl rfl rfl rfl rfl (V_move rfl rfl) ?_
      refine L_wv rfl rfl rfl rfl rfl rfl (V_neq rfl rfl rfl (by first | exact decide_eq_true (by omega) | exact decide_eq_false (by omega) | rfl)) ?_
      refine L_wv rfl rfl rfl rfl rfl rfl (V_move rfl rfl) ?_
      refine L_skip rfl rfl rfl rfl rfl rfl rfl ?_
      refine L_skip rfl rfl rfl rfl rfl rfl rfl ?_
      refine L_skip rfl rfl rfl rfl rfl rfl rfl ?_
      refine L_skip rfl rfl rfl rfl rfl rfl rfl ?_
      refine L_skip rfl rfl rfl rfl rfl rfl rfl ?_
      refine L_skip rfl rfl rfl rfl rfl rfl rfl ?_
      refine L_skip rfl rfl rfl rfl rfl rfl rfl ?_
      first | refine L_wv rfl rfl rfl rfl rfl rfl (V_pickT rfl rfl rfl) ?_ | refine L_wv rfl rfl rfl rfl rfl rfl (V_pickF rfl rfl rfl) ?_
      first | refine L_v rfl rfl rfl (V_pickT rfl rfl rfl) ?_ | refine L_v rfl rfl rfl (V_pickF rfl rfl rfl) ?_
      refine L_v rfl rfl rfl (V_assign rfl rfl) ?_
      refine L_nil ?_
      change J _ _ _ _
      refine J_ret ?_
      change Kret _ _ _ Exit.ret _
      refine ret1 rfl rfl (RV_t rfl) ?_
      exact fun w' h => ⟨rfl, h.fr⟩
    ·
      have hML : M.length ≤ 1099511627776 := by have h := encTs_len hE; omega
      refine J_skip ?_
      change J _ _ _ _
      refine J_seq ?_
      refine J_region ?_
      refine L_v rfl rfl rfl (V_loadW 0 rfl rfl rfl Try.underlying60 rfl (szd sz60s rfl)) ?_
      refine L_call rfl rfl rfl rfl tx25s (fun w1 hw => (own_w0 va1 va2 va3 vc1 vc2 vc3 e0 us hs ss w1 (OkW.fw hw (fun f hf => hf)) hbs.1 hbs.2.1 hbs.2.2.1 hbs.2.2.2).mono ?_)
      rintro e w' ⟨hfr, v, fs, rfl, hV, hfO⟩
      obtain ⟨us2, wa1, wc1, wa2, wc2, wa3, wc3, hus, rfl, rfl⟩ := hV
      replace hus : us2.map Prod.fst = us.map Prod.fst := hus
      refine ⟨_, _, _, rfl, OkW.fr0F hw hfr hfO, rfl, ?_⟩
      refine L_alloc rfl rfl rfl rfl z60s (fun b1 => ?_)
      refine L_storeW 1 rfl rfl rfl rfl rfl rfl (szd sz60s rfl) (all_one (by kernel_rfl)) rfl ?_
      refine L_nil ?_
      change J _ _ _ _
      refine J_seq ?_
      refine J_region ?_
      refine L_v rfl rfl rfl (V_loadW 0 rfl rfl rfl Try.underlying60 rfl (szd sz60s rfl)) ?_
      refine L_call rfl rfl rfl rfl tx26s (fun w1 hw => (putdirectory_w va1 va2 va3 vc1 vc2 vc3 e0 us hs ss w1 (OkW.fw hw (fun f hf => List.mem_append_left _ (hf))) (by omega)).mono ?_)
      rw [hE]
      rintro e w' ⟨hfr, a1, n1, c1, rfl, hs1, hc1, hn1⟩
      have hnw1 : ∀ k, (factB (.slice a1 n1 c1) M).fp k → w.heap.size ≤ k := fun j hk => Nat.le_trans hw.fr.size (hn1 j hk)
      refine ⟨_, _, _, rfl, OkW.fr0F hw (fs2 := [factB (.slice a1 n1 c1) M]) hfr (fun f hf => by obtain rfl := List.mem_singleton.1 hf; exact ⟨hs1, fun j hk => ⟨hn1 j hk, factB_lt hs1 j hk⟩⟩), rfl, ?_⟩
      refine L_v rfl rfl rfl (V_move rfl rfl) ?_
      refine L_v rfl rfl rfl (V_extract rfl rfl rfl) ?_
      refine L_v rfl rfl rfl (V_extract rfl rfl rfl) ?_
      refine L_v rfl rfl rfl (V_assign rfl rfl) ?_
      refine L_v rfl rfl rfl (V_assign rfl rfl) ?_
      refine L_nil ?_
      change J _ _ _ _
      refine J_seq ?_
      refine J_region ?_
      refine L_v rfl rfl rfl (V_loadW 1 rfl rfl rfl Try.underlying60 rfl (szd sz60s rfl)) ?_
      refine L_call rfl rfl rfl rfl tx27s (fun w1 hw => (rputdirectory_w wa1 wa2 wa3 wc1 wc2 wc3 e0 us2 hs ss w1 (OkW.fw hw (fun f hf => List.mem_append_left _ (List.mem_append_right _ (dfx_mem f hf)))) (by rw [hus]; omega)).mono ?_)
      rw [hus, hE]
      rintro e w' ⟨hfr, a2, n2, c2, rfl, hs2, hc2, hn2⟩
      have hnw2 : ∀ k, (factB (.slice a2 n2 c2) M).fp k → w.heap.size ≤ k := fun j hk => Nat.le_trans hw.fr.size (hn2 j hk)
      refine ⟨_, _, _, rfl, OkW.fr0F hw (fs2 := [factB (.slice a2 n2 c2) M]) hfr (fun f hf => by obtain rfl := List.mem_singleton.1 hf; exact ⟨hs2, fun j hk => ⟨hn2 j hk, factB_lt hs2 j hk⟩⟩), rfl, ?_⟩
      refine L_v rfl rfl rfl (V_move rfl rfl) ?_
      refine L_v rfl rfl rfl (V_extract rfl rfl rfl) ?_
      refine L_v rfl rfl rfl (V_extract rfl rfl rfl) ?_
      refine L_v rfl rfl rfl (V_assign rfl rfl) ?_
      refine L_v rfl rfl rfl (V_assign rfl rfl) ?_
      refine L_nil ?_
      change J _ _ _ _
      refine J_seq ?_
      refine J_seq ?_
      refine J_region ?_
      refine L_v rfl rfl rfl (V_move rfl rfl) ?_
      refine L_v rfl rfl rfl (V_move rfl rfl) ?_
      refine L_v rfl rfl rfl (V_move rfl rfl) ?_
      refine L_v rfl rfl rfl (V_move rfl rfl) ?_
      refine L_callV rfl rfl rfl rfl rfl rfl tx11s (fun w1 hw => laid_t _ _ M 0 w1 (hw.facts _ (List.mem_append_left _ (List.mem_append_right _ (List.mem_singleton.2 rfl)))).1 (hw.facts _ (List.mem_append_right _ (List.mem_singleton.2 rfl))).1) ?_
      refine L_v rfl rfl rfl (V_not rfl rfl rfl) ?_
      refine L_v rfl rfl rfl (V_move rfl rfl) ?_
      refine L_wv rfl rfl rfl rfl rfl rfl (V_loadW 0 rfl rfl rfl Try.underlying60 rfl (szd sz60s rfl)) ?_
      refine L_wv rfl rfl rfl rfl rfl rfl (V_loadW 1 rfl rfl rfl Try.underlying60 rfl (szd sz60s rfl)) ?_
      refine L_wcallV rfl rfl rfl rfl rfl rfl rfl rfl rfl tx28s (fun w1 hw => samedr_t va1 va2 va3 wa1 wa2 wa3 vc1 vc2 vc3 wc1 wc2 wc3 e0 us us2 hs ss w1 hus (OkW.fw hw (fun f hf => List.mem_append_left _ (List.mem_append_left _ (List.mem_append_left _ (hf))))) (OkW.fw hw (fun f hf => List.mem_append_left _ (List.mem_append_left _ (List.mem_append_right _ (dfx_mem f hf))))) (smU_mem hbs.2.2.2) (by omega) (by omega) (by omega)) ?_
      refine L_wv rfl rfl rfl rfl rfl rfl (V_not rfl rfl rfl) ?_
      first | refine L_v rfl rfl rfl (V_pickT rfl rfl rfl) ?_ | refine L_v rfl rfl rfl (V_pickF rfl rfl rfl) ?_
      refine L_nil ?_
      change J _ _ _ _
      refine J_false rfl ?_
      refine J_skip ?_
      change J _ _ _ _
      refine J_seq ?_
      refine J_region ?_
      refine L_v rfl rfl rfl (V_move rfl rfl) ?_
      refine L_call rfl rfl rfl rfl tx29s (fun w1 hw => (getdirectory_w a1 n1 c1 M w1 (hw.facts _ (List.mem_append_left _ (List.mem_append_right _ (List.mem_singleton.2 rfl)))).1 (encTs_byt hb hE) hc1 hML).mono ?_)
      rw [getW_put drC hE]
      rintro e w' ⟨hfr, v, fs, rfl, hV, hf9⟩
      have hnw9 : ∀ f ∈ fs, ∀ k, f.fp k → w.heap.size ≤ k := fun f hf j hk => Nat.le_trans hw.fr.size ((hf9 f hf).2 j hk).1
      obtain ⟨us3, xa1, xc1, xa2, xc2, xa3, xc3, hus3, rfl, rfl⟩ := hV
      refine ⟨_, _, _, rfl, OkW.fr0F hw hfr hf9, rfl, ?_⟩
      refine L_v rfl rfl rfl (V_move rfl rfl) ?_
      refine L_v rfl rfl rfl (V_extract rfl rfl rfl) ?_
      refine L_v rfl rfl rfl (V_extract rfl rfl rfl) ?_
      refine L_alloc rfl rfl rfl rfl z60s (fun b2 => ?_)
      refine L_storeW 2 rfl rfl rfl rfl rfl rfl (szd sz60s rfl) (all_one (by kernel_rfl)) rfl ?_
      refine L_v rfl rfl rfl (V_assign rfl rfl) ?_
      refine L_nil ?_
      change J _ _ _ _
      refine J_seq ?_
      refine J_region ?_
      refine L_callV rfl rfl rfl rfl rfl rfl tx30s (fun w1 hw => directories_t w1) ?_
      refine L_v rfl rfl rfl (V_move rfl rfl) ?_
      refine L_wv rfl rfl rfl rfl rfl rfl (V_move rfl rfl) ?_
      refine L_wv rfl rfl rfl rfl rfl rfl (V_neq rfl rfl rfl (by first | exact decide_eq_true (by omega) | exact decide_eq_false (by omega) | rfl)) ?_
      refine L_wv rfl rfl rfl rfl rfl rfl (V_move rfl rfl) ?_
      refine L_wv rfl rfl rfl rfl rfl rfl (V_move rfl rfl) ?_
      refine L_wv rfl rfl rfl rfl rfl rfl (V_eql rfl rfl rfl (by first | exact decide_eq_true (by omega) | exact decide_eq_false (by omega) | rfl)) ?_
      refine L_wv rfl rfl rfl rfl rfl rfl (V_move rfl rfl) ?_
      refine L_wv rfl rfl rfl rfl rfl rfl (V_loadW 0 rfl rfl rfl Try.underlying60 rfl (szd sz60s rfl)) ?_
      refine L_wv rfl rfl rfl rfl rfl rfl (V_loadW 2 rfl rfl rfl Try.underlying60 rfl (szd sz60s rfl)) ?_
      refine L_wcallV rfl rfl rfl rfl rfl rfl rfl rfl rfl tx28s (fun w1 hw => samedr_t va1 va2 va3 xa1 xa2 xa3 vc1 vc2 vc3 xc1 xc2 xc3 e0 us us3 hs ss w1 hus3 (OkW.fw hw (fun f hf => List.mem_append_left _ (List.mem_append_left _ (List.mem_append_left _ (List.mem_append_left _ (hf)))))) (OkW.fw hw (fun f hf => List.mem_append_right _ (dfx_mem f hf))) (smU_mem hbs.2.2.2) (by omega) (by omega) (by omega)) ?_
      first | refine L_wv rfl rfl rfl rfl rfl rfl (V_pickT rfl rfl rfl) ?_ | refine L_wv rfl rfl rfl rfl rfl rfl (V_pickF rfl rfl rfl) ?_
      first | refine L_wv rfl rfl rfl rfl rfl rfl (V_pickT rfl rfl rfl) ?_ | refine L_wv rfl rfl rfl rfl rfl rfl (V_pickF rfl rfl rfl) ?_
      first | refine L_v rfl rfl rfl (V_pickT rfl rfl rfl) ?_ | refine L_v rfl rfl rfl (V_pickF rfl rfl rfl) ?_
      refine L_v rfl rfl rfl (V_assign rfl rfl) ?_
      refine L_nil ?_
      change J _ _ _ _
      refine J_ret ?_
      change Kret _ _ _ Exit.ret _
      refine ret1 rfl rfl (RV_t rfl) ?_
      exact fun w' h => ⟨rfl, h.fr⟩

theorem WireDirectories_w (e0 : Int) (us : List (Us × Value)) (hs : List Hd) (ss : List Se) (v1 v2 v3 : Value) (w : World) (hs0 : FW w (factC 2 v1 us.length (us.map usW).flatten :: factC 65 v2 hs.length (hs.map hdV).flatten :: factC 4 v3 ss.length (ss.map seV).flatten :: us.map usF)) (hb : TB drC (e0, us.map Prod.fst, hs, ss)) :
    Calls Try.prog 6 #[.agg (drV e0 v1 v2 v3).toArray] w fun e w' => e = .returned (.bool true) ∧ Fr [] w w' := by
  obtain ⟨va1, vc1, rfl⟩ := SlC.form (hs0 _ (List.mem_cons_self ..)).1
  obtain ⟨va2, vc2, rfl⟩ := SlC.form (hs0 _ (List.mem_cons_of_mem _ (List.mem_cons_self ..))).1
  obtain ⟨va3, vc3, rfl⟩ := SlC.form (hs0 _ (List.mem_cons_of_mem _ (List.mem_cons_of_mem _ (List.mem_cons_self ..)))).1
  exact WireDirectories0_w va1 va2 va3 vc1 vc2 vc3 e0 us hs ss w hs0 hb
end Go.Proofs.Ytfgcfjojpakpjaa
