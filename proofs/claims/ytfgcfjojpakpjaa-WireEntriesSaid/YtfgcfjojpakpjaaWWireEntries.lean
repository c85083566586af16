/- What a law of layer 8 comes to. -/
import Derived.Test.YtfgcfjojpakpjaaWLaw
import Derived.Test.YtfgcfjojpakpjaaWSame
set_option linter.unusedVariables false
set_option linter.unusedSimpArgs false
set_option maxRecDepth 100000
namespace Go.Proofs.Ytfgcfjojpakpjaa
open Go.Sx
theorem sz9s : (Try.prog.info? 9).map (·.size) = some 1 := by kernel_rfl
theorem sz39s : (Try.prog.info? 39).map (·.size) = some 38 := by kernel_rfl
theorem sz47s : (Try.prog.info? 47).map (·.size) = some 2 := by kernel_rfl
theorem sz49s : (Try.prog.info? 49).map (·.size) = some 43 := by kernel_rfl
theorem tx11s : Txt Try.prog 11 := txt_of Try.func11 rfl (by kernel_rfl)
theorem tx18s : Txt Try.prog 18 := txt_of Try.func18 rfl (by kernel_rfl)
theorem tx19s : Txt Try.prog 19 := txt_of Try.func19 rfl (by kernel_rfl)
theorem tx20s : Txt Try.prog 20 := txt_of Try.func20 rfl (by kernel_rfl)
theorem tx21s : Txt Try.prog 21 := txt_of Try.func21 rfl (by kernel_rfl)
theorem tx22s : Txt Try.prog 22 := txt_of Try.func22 rfl (by kernel_rfl)
theorem tx23s : Txt Try.prog 23 := txt_of Try.func23 rfl (by kernel_rfl)
theorem z49s : (Try.prog.info? 49).bind (·.zero) = some (.agg [.int .i64 0, .int .i64 0, .int .i64 0, .int .i64 0, .int .i64 0, .int .i64 0, .string ByteArray.empty, .string ByteArray.empty, .int .i64 0, .int .u8 0, .int .u8 0, .int .u8 0, .int .u8 0, .int .u8 0, .int .u8 0, .int .u8 0, .int .u8 0, .int .u8 0, .int .u8 0, .int .u8 0, .int .u8 0, .int .u8 0, .int .u8 0, .int .u8 0, .int .u8 0, .int .u8 0, .int .u8 0, .int .u8 0, .int .u8 0, .int .u8 0, .int .u8 0, .int .u8 0, .int .u8 0, .int .u8 0, .int .u8 0, .int .u8 0, .int .u8 0, .int .u8 0, .int .u8 0, .int .u8 0, .int .u8 0, .slice none 0 0, .slice none 0 0].toArray) := by kernel_rfl

theorem WireEntries0_w (va vb : Option Addr) (ca cb : Nat) (x : En) (w : World) (hs : FW w (clF (.slice va x.2.2.2.2.1.length ca) (.slice vb x.2.2.2.2.2.length cb) x.2.2.2.2)) (hb : TB enC x) :
    Calls Try.prog 5 #[.agg (enV x (.slice va x.2.2.2.2.1.length ca) (.slice vb x.2.2.2.2.2.length cb)).toArray] w fun e w' => e = .returned (.bool true) ∧ Fr [] w w' := by
  have hT := en_len x
  refine calls_of (args := [.agg (enV x (.slice va x.2.2.2.2.1.length ca) (.slice vb x.2.2.2.2.2.length cb)).toArray]) ([]) ([]) (clF (.slice va x.2.2.2.2.1.length ca) (.slice vb x.2.2.2.2.2.length cb) x.2.2.2.2) Try.func5 rfl rfl (okFW hs) ?_
  by_cases h0 : (x.2.2.2.1.2.2.2.1.size : Int) > 262144
  ·
    refine J_seq ?_
    refine J_region ?_
    refine L_box rfl rfl rfl rfl rfl (fun b0 => ?_)
    refine L_v rfl rfl rfl (V_assign rfl rfl) ?_
    refine L_nil ?_
    change J _ _ _ _
    refine J_seq ?_
    refine J_seq ?_
    refine J_region ?_
    refine L_v rfl rfl rfl (V_fieldAddr rfl rfl Try.underlying49 rfl sz39s rfl) ?_
    refine L_v rfl rfl rfl (V_fieldAddr rfl rfl Try.underlying39 rfl sz9s rfl) ?_
    refine L_v rfl rfl rfl (V_load1 0 rfl rfl rfl Try.underlying9 rfl (by first | rfl | exact dg_get (by omega) (by omega))) ?_
    refine L_v rfl rfl rfl (V_lenS rfl rfl Try.underlying9 rfl) ?_
    refine L_v rfl rfl rfl (V_gtr rfl rfl rfl (by first | exact decide_eq_true (by omega) | exact decide_eq_false (by omega) | rfl)) ?_
    refine L_v rfl rfl rfl (V_move rfl rfl) ?_
    refine L_skip rfl rfl rfl rfl rfl rfl rfl ?_
    refine L_skip rfl rfl rfl rfl rfl rfl rfl ?_
    refine L_skip rfl rfl rfl rfl rfl rfl rfl ?_
    refine L_skip rfl rfl rfl rfl rfl rfl rfl ?_
    refine L_skip rfl rfl rfl rfl rfl rfl rfl ?_
    first | refine L_v rfl rfl rfl (V_pickT rfl rfl rfl) ?_ | refine L_v rfl rfl rfl (V_pickF rfl rfl rfl) ?_
    refine L_v rfl rfl rfl (V_move rfl rfl) ?_
    refine L_skip rfl rfl rfl rfl rfl rfl rfl ?_
    refine L_skip rfl rfl rfl rfl rfl rfl rfl ?_
    refine L_skip rfl rfl rfl rfl rfl rfl rfl ?_
    first | refine L_v rfl rfl rfl (V_pickT rfl rfl rfl) ?_ | refine L_v rfl rfl rfl (V_pickF rfl rfl rfl) ?_
    refine L_nil ?_
    change J _ _ _ _
    refine J_true rfl ?_
    refine J_seq ?_
    refine J_region ?_
    refine L_v rfl rfl rfl (V_assign rfl rfl) ?_
    refine L_nil ?_
    change J _ _ _ _
    refine J_ret ?_
    change Kret _ _ _ Exit.ret _
    refine ret1 rfl rfl (RV_t rfl) ?_
    exact fun w' h => ⟨rfl, h.fr⟩
  ·
    by_cases h00 : (x.2.2.2.1.2.2.2.2.1.size : Int) > 262144
    ·
      refine J_seq ?_
      refine J_region ?_
      refine L_box rfl rfl rfl rfl rfl (fun b0 => ?_)
      refine L_v rfl rfl rfl (V_assign rfl rfl) ?_
      refine L_nil ?_
      change J _ _ _ _
      refine J_seq ?_
      refine J_seq ?_
      refine J_region ?_
      refine L_v rfl rfl rfl (V_fieldAddr rfl rfl Try.underlying49 rfl sz39s rfl) ?_
      refine L_v rfl rfl rfl (V_fieldAddr rfl rfl Try.underlying39 rfl sz9s rfl) ?_
      refine L_v rfl rfl rfl (V_load1 0 rfl rfl rfl Try.underlying9 rfl (by first | rfl | exact dg_get (by omega) (by omega))) ?_
      refine L_v rfl rfl rfl (V_lenS rfl rfl Try.underlying9 rfl) ?_
      refine L_v rfl rfl rfl (V_gtr rfl rfl rfl (by first | exact decide_eq_true (by omega) | exact decide_eq_false (by omega) | rfl)) ?_
      refine L_v rfl rfl rfl (V_move rfl rfl) ?_
      refine L_wv rfl rfl rfl rfl rfl rfl (V_fieldAddr rfl rfl Try.underlying49 rfl sz39s rfl) ?_
      refine L_wv rfl rfl rfl rfl rfl rfl (V_fieldAddr rfl rfl Try.underlying39 rfl sz9s rfl) ?_
      refine L_wv rfl rfl rfl rfl rfl rfl (V_load1 0 rfl rfl rfl Try.underlying9 rfl (by first | rfl | exact dg_get (by omega) (by omega))) ?_
      refine L_wv rfl rfl rfl rfl rfl rfl (V_lenS rfl rfl Try.underlying9 rfl) ?_
      refine L_wv rfl rfl rfl rfl rfl rfl (V_gtr rfl rfl rfl (by first | exact decide_eq_true (by omega) | exact decide_eq_false (by omega) | rfl)) ?_
      first | refine L_v rfl rfl rfl (V_pickT rfl rfl rfl) ?_ | refine L_v rfl rfl rfl (V_pickF rfl rfl rfl) ?_
      refine L_v rfl rfl rfl (V_move rfl rfl) ?_
      refine L_skip rfl rfl rfl rfl rfl rfl rfl ?_
      refine L_skip rfl rfl rfl rfl rfl rfl rfl ?_
      refine L_skip rfl rfl rfl rfl rfl rfl rfl ?_
      first | refine L_v rfl rfl rfl (V_pickT rfl rfl rfl) ?_ | refine L_v rfl rfl rfl (V_pickF rfl rfl rfl) ?_
      refine L_nil ?_
      change J _ _ _ _
      refine J_true rfl ?_
      refine J_seq ?_
      refine J_region ?_
      refine L_v rfl rfl rfl (V_assign rfl rfl) ?_
      refine L_nil ?_
      change J _ _ _ _
      refine J_ret ?_
      change Kret _ _ _ Exit.ret _
      refine ret1 rfl rfl (RV_t rfl) ?_
      exact fun w' h => ⟨rfl, h.fr⟩
    ·
      by_cases hbg : 5000 < x.2.2.2.2.1.length ∨ 5000 < x.2.2.2.2.2.length
      ·
        refine J_seq ?_
        refine J_region ?_
        refine L_box rfl rfl rfl rfl rfl (fun b0 => ?_)
        refine L_v rfl rfl rfl (V_assign rfl rfl) ?_
        refine L_nil ?_
        change J _ _ _ _
        refine J_seq ?_
        refine J_seq ?_
        refine J_region ?_
        refine L_v rfl rfl rfl (V_fieldAddr rfl rfl Try.underlying49 rfl sz39s rfl) ?_
        refine L_v rfl rfl rfl (V_fieldAddr rfl rfl Try.underlying39 rfl sz9s rfl) ?_
        refine L_v rfl rfl rfl (V_load1 0 rfl rfl rfl Try.underlying9 rfl (by first | rfl | exact dg_get (by omega) (by omega))) ?_
        refine L_v rfl rfl rfl (V_lenS rfl rfl Try.underlying9 rfl) ?_
        refine L_v rfl rfl rfl (V_gtr rfl rfl rfl (by first | exact decide_eq_true (by omega) | exact decide_eq_false (by omega) | rfl)) ?_
        refine L_v rfl rfl rfl (V_move rfl rfl) ?_
        refine L_wv rfl rfl rfl rfl rfl rfl (V_fieldAddr rfl rfl Try.underlying49 rfl sz39s rfl) ?_
        refine L_wv rfl rfl rfl rfl rfl rfl (V_fieldAddr rfl rfl Try.underlying39 rfl sz9s rfl) ?_
        refine L_wv rfl rfl rfl rfl rfl rfl (V_load1 0 rfl rfl rfl Try.underlying9 rfl (by first | rfl | exact dg_get (by omega) (by omega))) ?_
        refine L_wv rfl rfl rfl rfl rfl rfl (V_lenS rfl rfl Try.underlying9 rfl) ?_
        refine L_wv rfl rfl rfl rfl rfl rfl (V_gtr rfl rfl rfl (by first | exact decide_eq_true (by omega) | exact decide_eq_false (by omega) | rfl)) ?_
        first | refine L_v rfl rfl rfl (V_pickT rfl rfl rfl) ?_ | refine L_v rfl rfl rfl (V_pickF rfl rfl rfl) ?_
        refine L_v rfl rfl rfl (V_move rfl rfl) ?_
        refine L_wv rfl rfl rfl rfl rfl rfl (V_fieldAddr rfl rfl Try.underlying49 rfl sz47s rfl) ?_
        refine L_wv rfl rfl rfl rfl rfl rfl (V_loadT 0 (vs := clV (.slice va x.2.2.2.2.1.length ca) (.slice vb x.2.2.2.2.2.length cb)) rfl rfl rfl Try.underlying47 rfl sz47s rfl rfl) ?_
        refine L_wcallV rfl rfl rfl rfl rfl rfl rfl rfl rfl tx18s (fun w1 hw => big_t va vb _ _ ca cb w1 hbg) ?_
        first | refine L_v rfl rfl rfl (V_pickT rfl rfl rfl) ?_ | refine L_v rfl rfl rfl (V_pickF rfl rfl rfl) ?_
        refine L_nil ?_
        change J _ _ _ _
        refine J_true rfl ?_
        refine J_seq ?_
        refine J_region ?_
        refine L_v rfl rfl rfl (V_assign rfl rfl) ?_
        refine L_nil ?_
        change J _ _ _ _
        refine J_ret ?_
        change Kret _ _ _ Exit.ret _
        refine ret1 rfl rfl (RV_t rfl) ?_
        exact fun w' h => ⟨rfl, h.fr⟩
      ·
        refine J_seq ?_
        refine J_region ?_
        refine L_box rfl rfl rfl rfl rfl (fun b0 => ?_)
        refine L_v rfl rfl rfl (V_assign rfl rfl) ?_
        refine L_nil ?_
        change J _ _ _ _
        refine J_seq ?_
        refine J_seq ?_
        refine J_region ?_
        refine L_v rfl rfl rfl (V_fieldAddr rfl rfl Try.underlying49 rfl sz39s rfl) ?_
        refine L_v rfl rfl rfl (V_fieldAddr rfl rfl Try.underlying39 rfl sz9s rfl) ?_
        refine L_v rfl rfl rfl (V_load1 0 rfl rfl rfl Try.underlying9 rfl (by first | rfl | exact dg_get (by omega) (by omega))) ?_
        refine L_v rfl rfl rfl (V_lenS rfl rfl Try.underlying9 rfl) ?_
        refine L_v rfl rfl rfl (V_gtr rfl rfl rfl (by first | exact decide_eq_true (by omega) | exact decide_eq_false (by omega) | rfl)) ?_
        refine L_v rfl rfl rfl (V_move rfl rfl) ?_
        refine L_wv rfl rfl rfl rfl rfl rfl (V_fieldAddr rfl rfl Try.underlying49 rfl sz39s rfl) ?_
        refine L_wv rfl rfl rfl rfl rfl rfl (V_fieldAddr rfl rfl Try.underlying39 rfl sz9s rfl) ?_
        refine L_wv rfl rfl rfl rfl rfl rfl (V_load1 0 rfl rfl rfl Try.underlying9 rfl (by first | rfl | exact dg_get (by omega) (by omega))) ?_
        refine L_wv rfl rfl rfl rfl rfl rfl (V_lenS rfl rfl Try.underlying9 rfl) ?_
        refine L_wv rfl rfl rfl rfl rfl rfl (V_gtr rfl rfl rfl (by first | exact decide_eq_true (by omega) | exact decide_eq_false (by omega) | rfl)) ?_
        first | refine L_v rfl rfl rfl (V_pickT rfl rfl rfl) ?_ | refine L_v rfl rfl rfl (V_pickF rfl rfl rfl) ?_
        refine L_v rfl rfl rfl (V_move rfl rfl) ?_
        refine L_wv rfl rfl rfl rfl rfl rfl (V_fieldAddr rfl rfl Try.underlying49 rfl sz47s rfl) ?_
        refine L_wv rfl rfl rfl rfl rfl rfl (V_loadT 0 (vs := clV (.slice va x.2.2.2.2.1.length ca) (.slice vb x.2.2.2.2.2.length cb)) rfl rfl rfl Try.underlying47 rfl sz47s rfl rfl) ?_
        refine L_wcallV rfl rfl rfl rfl rfl rfl rfl rfl rfl tx18s (fun w1 hw => big_f va vb _ _ ca cb w1 (by omega)) ?_
        first | refine L_v rfl rfl rfl (V_pickT rfl rfl rfl) ?_ | refine L_v rfl rfl rfl (V_pickF rfl rfl rfl) ?_
        refine L_nil ?_
        change J _ _ _ _
        refine J_false rfl ?_
        rcases hE : encTs (enC.tk x) with k | M
        ·
          have hk0 : k ≠ 0 := by rcases encTs_err hE with h | h <;> omega
          refine J_skip ?_
          change J _ _ _ _
          refine J_seq ?_
          refine J_region ?_
          refine L_v rfl rfl rfl (V_loadW 0 rfl rfl rfl Try.underlying49 rfl (szd sz49s (by kernel_rfl))) ?_
          refine L_call rfl rfl rfl rfl tx19s (fun w1 hw => (putentry_w (.slice va x.2.2.2.2.1.length ca) (.slice vb x.2.2.2.2.2.length cb) x w1 (OkW.fw hw (fun f hf => hf)) (by omega)).mono ?_)
          rw [hE]
          rintro e w' ⟨hfr, rfl⟩
          refine ⟨_, _, _, rfl, hw.fr0 hfr, rfl, ?_⟩
          refine L_v rfl rfl rfl (V_move rfl rfl) ?_
          refine L_v rfl rfl rfl (V_extract rfl rfl rfl) ?_
          refine L_v rfl rfl rfl (V_extract rfl rfl rfl) ?_
          refine L_v rfl rfl rfl (V_assign rfl rfl) ?_
          refine L_v rfl rfl rfl (V_assign rfl rfl) ?_
          refine L_nil ?_
          change J _ _ _ _
          refine J_seq ?_
          refine J_region ?_
          refine L_v rfl rfl rfl (V_loadW 0 rfl rfl rfl Try.underlying49 rfl (szd sz49s (by kernel_rfl))) ?_
          refine L_call rfl rfl rfl rfl tx20s (fun w1 hw => (rputentry_w (.slice va x.2.2.2.2.1.length ca) (.slice vb x.2.2.2.2.2.length cb) x w1 (OkW.fw hw (fun f hf => hf)) (by omega)).mono ?_)
          rw [hE]
          rintro e w' ⟨hfr, rfl⟩
          refine ⟨_, _, _, rfl, hw.fr0 hfr, rfl, ?_⟩
          refine L_v rfl rfl rfl (V_move rfl rfl) ?_
          refine L_v rfl rfl rfl (V_extract rfl rfl rfl) ?_
          refine L_v rfl rfl rfl (V_extract rfl rfl rfl) ?_
          refine L_v rfl rfl rfl (V_assign rfl rfl) ?_
          refine L_v rfl rfl rfl (V_assign rfl rfl) ?_
          refine L_nil ?_
          change J _ _ _ _
          refine J_seq ?_
          refine J_seq ?_
          refine J_region ?_
          refine L_v rfl rfl rfl (V_move rfl rfl) ?_
          refine L_v rfl rfl rfl (V_move rfl rfl) ?_
          refine L_v rfl rfl rfl (V_move rfl rfl) ?_
          refine L_v rfl rfl rfl (V_move rfl rfl) ?_
          refine L_callV rfl rfl rfl rfl rfl rfl tx11s (fun w1 hw => laid_t nilB nilB [] k w1 (SlB.nil _ _) (SlB.nil _ _)) ?_
          refine L_v rfl rfl rfl (V_not rfl rfl rfl) ?_
          refine L_nil ?_
          change J _ _ _ _
          refine J_false rfl ?_
          refine J_skip ?_
          change J _ _ _ _
          refine J_seq ?_
          refine J_region ?_
          refine L_v rfl rfl rfl (V_move rfl rfl) ?_
          refine L_call rfl rfl rfl rfl tx21s (fun w1 hw => (getentry_w none 0 0 [] w1 (SlB.nil _ _) byt0 (Nat.le_refl 0) (by decide)).mono ?_)
          rw [getW_en0]
          rintro e w' ⟨hfr, rfl⟩
          refine ⟨_, _, _, rfl, hw.fr0 hfr, rfl, ?_⟩
          refine L_v rfl rfl rfl (V_move rfl rfl) ?_
          refine L_v rfl rfl rfl (V_extract rfl rfl rfl) ?_
          refine L_v rfl rfl rfl (V_extract rfl rfl rfl) ?_
          refine L_alloc rfl rfl rfl rfl z49s (fun b1 => ?_)
          refine L_storeW 1 rfl rfl rfl rfl rfl rfl (szd sz49s (by kernel_rfl)) (all_one (by kernel_rfl)) (by kernel_rfl) ?_
          refine L_v rfl rfl rfl (V_assign rfl rfl) ?_
          refine L_nil ?_
          change J _ _ _ _
          refine J_seq ?_
          refine J_region ?_
          refine L_callV rfl rfl rfl rfl rfl rfl tx22s (fun w1 hw => entries_t w1) ?_
          refine L_v rfl rfl rfl (V_move rfl rfl) ?_
          refine L_wv rfl rfl rfl rfl rfl rfl (V_move rfl rfl) ?_
          refine L_wv rfl rfl rfl rfl rfl rfl (V_neq rfl rfl rfl (by first | exact decide_eq_true (by omega) | exact decide_eq_false (by omega) | rfl)) ?_
          refine L_wv rfl rfl rfl rfl rfl rfl (V_move rfl rfl) ?_
          refine L_skip rfl rfl rfl rfl rfl rfl rfl ?_
          refine L_skip rfl rfl rfl rfl rfl rfl rfl ?_
          refine L_skip rfl rfl rfl rfl rfl rfl rfl ?_
          refine L_skip rfl rfl rfl rfl rfl rfl rfl ?_
          refine L_skip rfl rfl rfl rfl rfl rfl rfl ?_
          refine L_skip rfl rfl rfl rfl rfl rfl rfl ?_
          refine L_skip rfl rfl rfl rfl rfl rfl rfl ?_
          first | refine L_wv rfl rfl rfl rfl rfl rfl (V_pickT rfl rfl rfl) ?_ | refine L_wv rfl rfl rfl rfl rfl rfl (V_pickF rfl rfl rfl) ?_
          first | refine L_v rfl rfl rfl (V_pickT rfl rfl rfl) ?_ | refine L_v rfl rfl rfl (V_pickF rfl rfl rfl) ?_
          refine L_v rfl rfl rfl (V_assign rfl rfl) ?_
          refine L_nil ?_
          change J _ _ _ _
          refine J_ret ?_
          change Kret _ _ _ Exit.ret _
          refine ret1 rfl rfl (RV_t rfl) ?_
          exact fun w' h => ⟨rfl, h.fr⟩
        ·
          have hML : M.length ≤ 1099511627776 := by have h := encTs_len hE; omega
          refine J_skip ?_
          change J _ _ _ _
          refine J_seq ?_
          refine J_region ?_
          refine L_v rfl rfl rfl (V_loadW 0 rfl rfl rfl Try.underlying49 rfl (szd sz49s (by kernel_rfl))) ?_
          refine L_call rfl rfl rfl rfl tx19s (fun w1 hw => (putentry_w (.slice va x.2.2.2.2.1.length ca) (.slice vb x.2.2.2.2.2.length cb) x w1 (OkW.fw hw (fun f hf => hf)) (by omega)).mono ?_)
          rw [hE]
          rintro e w' ⟨hfr, a1, n1, c1, rfl, hs1, hc1, hn1⟩
          have hnw1 : ∀ k, (factB (.slice a1 n1 c1) M).fp k → w.heap.size ≤ k := fun j hk => Nat.le_trans hw.fr.size (hn1 j hk)
          refine ⟨_, _, _, rfl, OkW.fr0F hw (fs2 := [factB (.slice a1 n1 c1) M]) hfr (fun f hf => by obtain rfl := List.mem_singleton.1 hf; exact ⟨hs1, fun j hk => ⟨hn1 j hk, factB_lt hs1 j hk⟩⟩), rfl, ?_⟩
          refine L_v rfl rfl rfl (V_move rfl rfl) ?_
          refine L_v rfl rfl rfl (V_extract rfl rfl rfl) ?_
          refine L_v rfl rfl rfl (V_extract rfl rfl rfl) ?_
          refine L_v rfl rfl rfl (V_assign rfl rfl) ?_
          refine L_v rfl rfl rfl (V_assign rfl rfl) ?_
          refine L_nil ?_
          change J _ _ _ _
          refine J_seq ?_
          refine J_region ?_
          refine L_v rfl rfl rfl (V_loadW 0 rfl rfl rfl Try.underlying49 rfl (szd sz49s (by kernel_rfl))) ?_
          refine L_call rfl rfl rfl rfl tx20s (fun w1 hw => (rputentry_w (.slice va x.2.2.2.2.1.length ca) (.slice vb x.2.2.2.2.2.length cb) x w1 (OkW.fw hw (fun f hf => List.mem_append_left _ (hf))) (by omega)).mono ?_)
          rw [hE]
          rintro e w' ⟨hfr, a2, n2, c2, rfl, hs2, hc2, hn2⟩
          have hnw2 : ∀ k, (factB (.slice a2 n2 c2) M).fp k → w.heap.size ≤ k := fun j hk => Nat.le_trans hw.fr.size (hn2 j hk)
          refine ⟨_, _, _, rfl, OkW.fr0F hw (fs2 := [factB (.slice a2 n2 c2) M]) hfr (fun f hf => by obtain rfl := List.mem_singleton.1 hf; exact ⟨hs2, fun j hk => ⟨hn2 j hk, factB_lt hs2 j hk⟩⟩), rfl, ?_⟩
          refine L_v rfl rfl rfl (V_move rfl rfl) ?_
          refine L_v rfl rfl rfl (V_extract rfl rfl rfl) ?_
          refine L_v rfl rfl rfl (V_extract rfl rfl rfl) ?_
          refine L_v rfl rfl rfl (V_assign rfl rfl) ?_
          refine L_v rfl rfl rfl (V_assign rfl rfl) ?_
          refine L_nil ?_
          change J _ _ _ _
          refine J_seq ?_
          refine J_seq ?_
          refine J_region ?_
          refine L_v rfl rfl rfl (V_move rfl rfl) ?_
          refine L_v rfl rfl rfl (V_move rfl rfl) ?_
          refine L_v rfl rfl rfl (V_move rfl rfl) ?_
          refine L_v rfl rfl rfl (V_move rfl rfl) ?_
          refine L_callV rfl rfl rfl rfl rfl rfl tx11s (fun w1 hw => laid_t _ _ M 0 w1 (fB hw 2 rfl) (fB hw 3 rfl)) ?_
          refine L_v rfl rfl rfl (V_not rfl rfl rfl) ?_
          refine L_nil ?_
          change J _ _ _ _
          refine J_false rfl ?_
          refine J_skip ?_
          change J _ _ _ _
          refine J_seq ?_
          refine J_region ?_
          refine L_v rfl rfl rfl (V_move rfl rfl) ?_
          refine L_call rfl rfl rfl rfl tx21s (fun w1 hw => (getentry_w a1 n1 c1 M w1 (fB hw 2 rfl) (encTs_byt hb hE) hc1 (by first | decide | omega)).mono ?_)
          rw [getW_put enC hE]
          rintro e w' ⟨hfr, v, fs, rfl, hV, hf9⟩
          have hnw9 : ∀ f ∈ fs, ∀ k, f.fp k → w.heap.size ≤ k := fun f hf j hk => Nat.le_trans hw.fr.size ((hf9 f hf).2 j hk).1
          obtain ⟨ya1, yc1, ya2, yc2, rfl, rfl⟩ := hV
          refine ⟨_, _, _, rfl, OkW.fr0F hw hfr hf9, rfl, ?_⟩
          refine L_v rfl rfl rfl (V_move rfl rfl) ?_
          refine L_v rfl rfl rfl (V_extract rfl rfl rfl) ?_
          refine L_v rfl rfl rfl (V_extract rfl rfl rfl) ?_
          refine L_alloc rfl rfl rfl rfl z49s (fun b1 => ?_)
          refine L_storeW 1 rfl rfl rfl rfl rfl rfl (szd sz49s (by kernel_rfl)) (all_one (by kernel_rfl)) (by kernel_rfl) ?_
          refine L_v rfl rfl rfl (V_assign rfl rfl) ?_
          refine L_nil ?_
          change J _ _ _ _
          refine J_seq ?_
          refine J_region ?_
          refine L_callV rfl rfl rfl rfl rfl rfl tx22s (fun w1 hw => entries_t w1) ?_
          refine L_v rfl rfl rfl (V_move rfl rfl) ?_
          refine L_wv rfl rfl rfl rfl rfl rfl (V_move rfl rfl) ?_
          refine L_wv rfl rfl rfl rfl rfl rfl (V_neq rfl rfl rfl (by first | exact decide_eq_true (by omega) | exact decide_eq_false (by omega) | rfl)) ?_
          refine L_wv rfl rfl rfl rfl rfl rfl (V_move rfl rfl) ?_
          refine L_wv rfl rfl rfl rfl rfl rfl (V_move rfl rfl) ?_
          refine L_wv rfl rfl rfl rfl rfl rfl (V_eql rfl rfl rfl (by first | exact decide_eq_true (by omega) | exact decide_eq_false (by omega) | rfl)) ?_
          refine L_wv rfl rfl rfl rfl rfl rfl (V_move rfl rfl) ?_
          refine L_wv rfl rfl rfl rfl rfl rfl (V_loadW 0 rfl rfl rfl Try.underlying49 rfl (szd sz49s (by kernel_rfl))) ?_
          refine L_wv rfl rfl rfl rfl rfl rfl (V_loadW 1 rfl rfl rfl Try.underlying49 rfl (szd sz49s (by kernel_rfl))) ?_
          refine L_wcallV rfl rfl rfl rfl rfl rfl rfl rfl rfl tx23s (fun w1 hw => sameen_t x (.slice va x.2.2.2.2.1.length ca) (.slice vb x.2.2.2.2.2.length cb) _ _ w1 (OkW.fw hw (fun f hf => List.mem_append_left _ (List.mem_append_left _ (List.mem_append_left _ (hf))))) (OkW.fw hw (fun f hf => List.mem_append_right _ hf)) ⟨by omega, by omega⟩) ?_
          first | refine L_wv rfl rfl rfl rfl rfl rfl (V_pickT rfl rfl rfl) ?_ | refine L_wv rfl rfl rfl rfl rfl rfl (V_pickF rfl rfl rfl) ?_
          first | refine L_wv rfl rfl rfl rfl rfl rfl (V_pickT rfl rfl rfl) ?_ | refine L_wv rfl rfl rfl rfl rfl rfl (V_pickF rfl rfl rfl) ?_
          first | refine L_v rfl rfl rfl (V_pickT rfl rfl rfl) ?_ | refine L_v rfl rfl rfl (V_pickF rfl rfl rfl) ?_
          refine L_v rfl rfl rfl (V_assign rfl rfl) ?_
          refine L_nil ?_
          change J _ _ _ _
          refine J_ret ?_
          change Kret _ _ _ Exit.ret _
          refine ret1 rfl rfl (RV_t rfl) ?_
          exact fun w' h => ⟨rfl, h.fr⟩

theorem WireEntries_w (x : En) (u1 u2 : Value) (w : World) (hs : FW w (clF u1 u2 x.2.2.2.2)) (hb : TB enC x) (q1 : Cap u1) (q2 : Cap u2) :
    Calls Try.prog 5 #[.agg (enV x u1 u2).toArray] w fun e w' => e = .returned (.bool true) ∧ Fr [] w w' := by
  obtain ⟨h1, h2⟩ := hs.clE
  obtain ⟨va, ca, rfl⟩ := h1.form
  obtain ⟨vb, cb, rfl⟩ := h2.form
  exact WireEntries0_w va vb ca cb x w hs hb
end Go.Proofs.Ytfgcfjojpakpjaa
