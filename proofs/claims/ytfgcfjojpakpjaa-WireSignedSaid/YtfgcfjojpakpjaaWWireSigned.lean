/- What a law of layer 8 comes to. -/
import Derived.Test.YtfgcfjojpakpjaaWLaw
import Derived.Test.YtfgcfjojpakpjaaWRPuts
set_option linter.unusedVariables false
set_option linter.unusedSimpArgs false
set_option maxRecDepth 100000
namespace Go.Proofs.Ytfgcfjojpakpjaa
open Go.Sx
theorem sz27s : (Try.prog.info? 27).map (·.size) = some 97 := by kernel_rfl
theorem tx9s : Txt Try.prog 9 := txt_of Try.func9 rfl (by kernel_rfl)
theorem tx10s : Txt Try.prog 10 := txt_of Try.func10 rfl (by kernel_rfl)
theorem tx11s : Txt Try.prog 11 := txt_of Try.func11 rfl (by kernel_rfl)
theorem tx12s : Txt Try.prog 12 := txt_of Try.func12 rfl (by kernel_rfl)
theorem tx13s : Txt Try.prog 13 := txt_of Try.func13 rfl (by kernel_rfl)
theorem z27s : (Try.prog.info? 27).bind (·.zero) = some (.agg [.int .i64 0, .int .u8 0, .int .u8 0, .int .u8 0, .int .u8 0, .int .u8 0, .int .u8 0, .int .u8 0, .int .u8 0, .int .u8 0, .int .u8 0, .int .u8 0, .int .u8 0, .int .u8 0, .int .u8 0, .int .u8 0, .int .u8 0, .int .u8 0, .int .u8 0, .int .u8 0, .int .u8 0, .int .u8 0, .int .u8 0, .int .u8 0, .int .u8 0, .int .u8 0, .int .u8 0, .int .u8 0, .int .u8 0, .int .u8 0, .int .u8 0, .int .u8 0, .int .u8 0, .int .u8 0, .int .u8 0, .int .u8 0, .int .u8 0, .int .u8 0, .int .u8 0, .int .u8 0, .int .u8 0, .int .u8 0, .int .u8 0, .int .u8 0, .int .u8 0, .int .u8 0, .int .u8 0, .int .u8 0, .int .u8 0, .int .u8 0, .int .u8 0, .int .u8 0, .int .u8 0, .int .u8 0, .int .u8 0, .int .u8 0, .int .u8 0, .int .u8 0, .int .u8 0, .int .u8 0, .int .u8 0, .int .u8 0, .int .u8 0, .int .u8 0, .int .u8 0, .int .u8 0, .int .u8 0, .int .u8 0, .int .u8 0, .int .u8 0, .int .u8 0, .int .u8 0, .int .u8 0, .int .u8 0, .int .u8 0, .int .u8 0, .int .u8 0, .int .u8 0, .int .u8 0, .int .u8 0, .int .u8 0, .int .u8 0, .int .u8 0, .int .u8 0, .int .u8 0, .int .u8 0, .int .u8 0, .int .u8 0, .int .u8 0, .int .u8 0, .int .u8 0, .int .u8 0, .int .u8 0, .int .u8 0, .int .u8 0, .int .u8 0, .int .u8 0].toArray) := by kernel_rfl

theorem WireSigned_w (x : Sg) (w : World) (hb : TB sgC x) :
    Calls Try.prog 3 #[.agg (sgV x).toArray] w fun e w' => e = .returned (.bool true) ∧ Fr [] w w' := by
  have hT : (sgC.tk x).length = 4 := rfl
  refine calls_of (args := [.agg (sgV x).toArray]) ([]) ([]) ([]) Try.func3 rfl rfl (okW0 _ _ _ _) ?_
  rcases hE : encTs (sgC.tk x) with k | M
  ·
    have hk0 : k ≠ 0 := by rcases encTs_err hE with h | h <;> omega
    refine J_seq ?_
    refine J_region ?_
    refine L_box rfl rfl rfl rfl rfl (fun b0 => ?_)
    refine L_v rfl rfl rfl (V_assign rfl rfl) ?_
    refine L_nil ?_
    change J _ _ _ _
    refine J_seq ?_
    refine J_region ?_
    refine L_v rfl rfl rfl (V_loadW 0 rfl rfl rfl Try.underlying27 rfl (szd sz27s (by kernel_rfl))) ?_
    refine L_call rfl rfl rfl rfl tx9s (fun w1 hw => (putsigned_w x w1 (by decide)).mono ?_)
    rw [hE]
    rintro e w' ⟨hfr, rfl⟩
    refine ⟨_, _, _, rfl, hw.fr0 hfr, rfl, ?_⟩
    refine L_v rfl rfl rfl (V_move rfl rfl) ?_
    refine L_v rfl rfl rfl (V_extract rfl rfl rfl) ?_
    refine L_v rfl rfl rfl (V_extract rfl rfl rfl) ?_
    refine L_v rfl rfl rfl (V_assign rfl rfl) ?_
    refine L_v rfl rfl rfl (V_assign rfl rfl) ?_
    refine L_nil ?_
    change J _ _ _ _
    refine J_seq ?_
    refine J_region ?_
    refine L_v rfl rfl rfl (V_loadW 0 rfl rfl rfl Try.underlying27 rfl (szd sz27s (by kernel_rfl))) ?_
    refine L_call rfl rfl rfl rfl tx10s (fun w1 hw => (rputsigned_w x w1 (by decide)).mono ?_)
    rw [hE]
    rintro e w' ⟨hfr, rfl⟩
    refine ⟨_, _, _, rfl, hw.fr0 hfr, rfl, ?_⟩
    refine L_v rfl rfl rfl (V_move rfl rfl) ?_
    refine L_v rfl rfl rfl (V_extract rfl rfl rfl) ?_
    refine L_v rfl rfl rfl (V_extract rfl rfl rfl) ?_
    refine L_v rfl rfl rfl (V_assign rfl rfl) ?_
    refine L_v rfl rfl rfl (V_assign rfl rfl) ?_
    refine L_nil ?_
    change J _ _ _ _
    refine J_seq ?_
    refine J_seq ?_
    refine J_region ?_
    refine L_v rfl rfl rfl (V_move rfl rfl) ?_
    refine L_v rfl rfl rfl (V_move rfl rfl) ?_
    refine L_v rfl rfl rfl (V_move rfl rfl) ?_
    refine L_v rfl rfl rfl (V_move rfl rfl) ?_
    refine L_callV rfl rfl rfl rfl rfl rfl tx11s (fun w1 hw => laid_t nilB nilB [] k w1 (SlB.nil _ _) (SlB.nil _ _)) ?_
    refine L_v rfl rfl rfl (V_not rfl rfl rfl) ?_
    refine L_nil ?_
    change J _ _ _ _
    refine J_false rfl ?_
    refine J_skip ?_
    change J _ _ _ _
    refine J_seq ?_
    refine J_region ?_
    refine L_v rfl rfl rfl (V_move rfl rfl) ?_
    refine L_call rfl rfl rfl rfl tx12s (fun w1 hw => (getsigned_w none 0 0 [] w1 (SlB.nil _ _) byt0 (Nat.le_refl 0) (by decide)).mono ?_)
    rw [getW_sg0]
    rintro e w' ⟨hfr, rfl⟩
    refine ⟨_, _, _, rfl, hw.fr0 hfr, rfl, ?_⟩
    refine L_v rfl rfl rfl (V_move rfl rfl) ?_
    refine L_v rfl rfl rfl (V_extract rfl rfl rfl) ?_
    refine L_v rfl rfl rfl (V_extract rfl rfl rfl) ?_
    refine L_alloc rfl rfl rfl rfl z27s (fun b1 => ?_)
    refine L_storeW 1 rfl rfl rfl rfl rfl rfl (szd sz27s (by kernel_rfl)) (all_one (by kernel_rfl)) (by kernel_rfl) ?_
    refine L_v rfl rfl rfl (V_assign rfl rfl) ?_
    refine L_nil ?_
    change J _ _ _ _
    refine J_seq ?_
    refine J_region ?_
    refine L_callV rfl rfl rfl rfl rfl rfl tx13s (fun w1 hw => signed_t w1) ?_
    refine L_v rfl rfl rfl (V_move rfl rfl) ?_
    refine L_wv rfl rfl rfl rfl rfl rfl (V_move rfl rfl) ?_
    refine L_wv rfl rfl rfl rfl rfl rfl (V_neq rfl rfl rfl (by first | exact decide_eq_true (by omega) | exact decide_eq_false (by omega) | rfl)) ?_
    refine L_wv rfl rfl rfl rfl rfl rfl (V_move rfl rfl) ?_
    refine L_skip rfl rfl rfl rfl rfl rfl rfl ?_
    refine L_skip rfl rfl rfl rfl rfl rfl rfl ?_
    refine L_skip rfl rfl rfl rfl rfl rfl rfl ?_
    refine L_skip rfl rfl rfl rfl rfl rfl rfl ?_
    refine L_skip rfl rfl rfl rfl rfl rfl rfl ?_
    refine L_skip rfl rfl rfl rfl rfl rfl rfl ?_
    refine L_skip rfl rfl rfl rfl rfl rfl rfl ?_
    first | refine L_wv rfl rfl rfl rfl rfl rfl (V_pickT rfl rfl rfl) ?_ | refine L_wv rfl rfl rfl rfl rfl rfl (V_pickF rfl rfl rfl) ?_
    first | refine L_v rfl rfl rfl (V_pickT rfl rfl rfl) ?_ | refine L_v rfl rfl rfl (V_pickF rfl rfl rfl) ?_
    refine L_v rfl rfl rfl (V_assign rfl rfl) ?_
    refine L_nil ?_
    change J _ _ _ _
    refine J_ret ?_
    change Kret _ _ _ Exit.ret _
    refine ret1 rfl rfl (RV_t rfl) ?_
    exact fun w' h => ⟨rfl, h.fr⟩
  ·
    have hML : M.length ≤ 1099511627776 := by have h := encTs_len hE; omega
    refine J_seq ?_
    refine J_region ?_
    refine L_box rfl rfl rfl rfl rfl (fun b0 => ?_)
    refine L_v rfl rfl rfl (V_assign rfl rfl) ?_
    refine L_nil ?_
    change J _ _ _ _
    refine J_seq ?_
    refine J_region ?_
    refine L_v rfl rfl rfl (V_loadW 0 rfl rfl rfl Try.underlying27 rfl (szd sz27s (by kernel_rfl))) ?_
    refine L_call rfl rfl rfl rfl tx9s (fun w1 hw => (putsigned_w x w1 (by decide)).mono ?_)
    rw [hE]
    rintro e w' ⟨hfr, a1, n1, c1, rfl, hs1, hc1, hn1⟩
    have hnw1 : ∀ k, (factB (.slice a1 n1 c1) M).fp k → w.heap.size ≤ k := fun j hk => Nat.le_trans hw.fr.size (hn1 j hk)
    refine ⟨_, _, _, rfl, OkW.fr0F hw (fs2 := [factB (.slice a1 n1 c1) M]) hfr (fun f hf => by obtain rfl := List.mem_singleton.1 hf; exact ⟨hs1, fun j hk => ⟨hn1 j hk, factB_lt hs1 j hk⟩⟩), rfl, ?_⟩
    refine L_v rfl rfl rfl (V_move rfl rfl) ?_
    refine L_v rfl rfl rfl (V_extract rfl rfl rfl) ?_
    refine L_v rfl rfl rfl (V_extract rfl rfl rfl) ?_
    refine L_v rfl rfl rfl (V_assign rfl rfl) ?_
    refine L_v rfl rfl rfl (V_assign rfl rfl) ?_
    refine L_nil ?_
    change J _ _ _ _
    refine J_seq ?_
    refine J_region ?_
    refine L_v rfl rfl rfl (V_loadW 0 rfl rfl rfl Try.underlying27 rfl (szd sz27s (by kernel_rfl))) ?_
    refine L_call rfl rfl rfl rfl tx10s (fun w1 hw => (rputsigned_w x w1 (by decide)).mono ?_)
    rw [hE]
    rintro e w' ⟨hfr, a2, n2, c2, rfl, hs2, hc2, hn2⟩
    have hnw2 : ∀ k, (factB (.slice a2 n2 c2) M).fp k → w.heap.size ≤ k := fun j hk => Nat.le_trans hw.fr.size (hn2 j hk)
    refine ⟨_, _, _, rfl, OkW.fr0F hw (fs2 := [factB (.slice a2 n2 c2) M]) hfr (fun f hf => by obtain rfl := List.mem_singleton.1 hf; exact ⟨hs2, fun j hk => ⟨hn2 j hk, factB_lt hs2 j hk⟩⟩), rfl, ?_⟩
    refine L_v rfl rfl rfl (V_move rfl rfl) ?_
    refine L_v rfl rfl rfl (V_extract rfl rfl rfl) ?_
    refine L_v rfl rfl rfl (V_extract rfl rfl rfl) ?_
    refine L_v rfl rfl rfl (V_assign rfl rfl) ?_
    refine L_v rfl rfl rfl (V_assign rfl rfl) ?_
    refine L_nil ?_
    change J _ _ _ _
    refine J_seq ?_
    refine J_seq ?_
    refine J_region ?_
    refine L_v rfl rfl rfl (V_move rfl rfl) ?_
    refine L_v rfl rfl rfl (V_move rfl rfl) ?_
    refine L_v rfl rfl rfl (V_move rfl rfl) ?_
    refine L_v rfl rfl rfl (V_move rfl rfl) ?_
    refine L_callV rfl rfl rfl rfl rfl rfl tx11s (fun w1 hw => laid_t _ _ M 0 w1 (fB hw 0 rfl) (fB hw 1 rfl)) ?_
    refine L_v rfl rfl rfl (V_not rfl rfl rfl) ?_
    refine L_nil ?_
    change J _ _ _ _
    refine J_false rfl ?_
    refine J_skip ?_
    change J _ _ _ _
    refine J_seq ?_
    refine J_region ?_
    refine L_v rfl rfl rfl (V_move rfl rfl) ?_
    refine L_call rfl rfl rfl rfl tx12s (fun w1 hw => (getsigned_w a1 n1 c1 M w1 (fB hw 0 rfl) (encTs_byt hb hE) hc1 (by first | decide | omega)).mono ?_)
    rw [getW_put sgC hE]
    rintro e w' ⟨hfr, v, fs, rfl, ⟨rfl, rfl⟩, hf⟩
    refine ⟨_, _, _, rfl, hw.fr0 hfr, rfl, ?_⟩
    refine L_v rfl rfl rfl (V_move rfl rfl) ?_
    refine L_v rfl rfl rfl (V_extract rfl rfl rfl) ?_
    refine L_v rfl rfl rfl (V_extract rfl rfl rfl) ?_
    refine L_alloc rfl rfl rfl rfl z27s (fun b1 => ?_)
    refine L_storeW 1 rfl rfl rfl rfl rfl rfl (szd sz27s (by kernel_rfl)) (all_one (by kernel_rfl)) (by kernel_rfl) ?_
    refine L_v rfl rfl rfl (V_assign rfl rfl) ?_
    refine L_nil ?_
    change J _ _ _ _
    refine J_seq ?_
    refine J_region ?_
    refine L_callV rfl rfl rfl rfl rfl rfl tx13s (fun w1 hw => signed_t w1) ?_
    refine L_v rfl rfl rfl (V_move rfl rfl) ?_
    refine L_wv rfl rfl rfl rfl rfl rfl (V_move rfl rfl) ?_
    refine L_wv rfl rfl rfl rfl rfl rfl (V_neq rfl rfl rfl (by first | exact decide_eq_true (by omega) | exact decide_eq_false (by omega) | rfl)) ?_
    refine L_wv rfl rfl rfl rfl rfl rfl (V_move rfl rfl) ?_
    refine L_wv rfl rfl rfl rfl rfl rfl (V_move rfl rfl) ?_
    refine L_wv rfl rfl rfl rfl rfl rfl (V_eql rfl rfl rfl (by first | exact decide_eq_true (by omega) | exact decide_eq_false (by omega) | rfl)) ?_
    refine L_wv rfl rfl rfl rfl rfl rfl (V_move rfl rfl) ?_
    refine L_wv rfl rfl rfl rfl rfl rfl (V_loadW 0 rfl rfl rfl Try.underlying27 rfl (szd sz27s (by kernel_rfl))) ?_
    refine L_wv rfl rfl rfl rfl rfl rfl (V_loadW 1 rfl rfl rfl Try.underlying27 rfl (szd sz27s (by kernel_rfl))) ?_
    refine L_wv rfl rfl rfl rfl rfl rfl (V_eqAgg rfl rfl rfl egS (fun w => eqSg _ w) rfl) ?_
    first | refine L_wv rfl rfl rfl rfl rfl rfl (V_pickT rfl rfl rfl) ?_ | refine L_wv rfl rfl rfl rfl rfl rfl (V_pickF rfl rfl rfl) ?_
    first | refine L_wv rfl rfl rfl rfl rfl rfl (V_pickT rfl rfl rfl) ?_ | refine L_wv rfl rfl rfl rfl rfl rfl (V_pickF rfl rfl rfl) ?_
    first | refine L_v rfl rfl rfl (V_pickT rfl rfl rfl) ?_ | refine L_v rfl rfl rfl (V_pickF rfl rfl rfl) ?_
    refine L_v rfl rfl rfl (V_assign rfl rfl) ?_
    refine L_nil ?_
    change J _ _ _ _
    refine J_ret ?_
    change Kret _ _ _ Exit.ret _
    refine ret1 rfl rfl (RV_t rfl) ?_
    exact fun w' h => ⟨rfl, h.fr⟩

end Go.Proofs.Ytfgcfjojpakpjaa
