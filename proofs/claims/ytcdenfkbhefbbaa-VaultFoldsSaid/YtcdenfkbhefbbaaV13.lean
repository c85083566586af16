/- The reference of the vault: are two the same; copies. -/
import Derived.Test.YtcdenfkbhefbbaaV12
set_option linter.unusedVariables false
set_option linter.unusedSimpArgs false
set_option maxRecDepth 100000
namespace Go.Proofs.Ytcdenfkbhefbbaa
open Go.Sx
theorem en_dec (x y : En) : ((((decide (x.1 = y.1) && decide (x.2.1 = y.2.1)) && decide (x.2.2.1 = y.2.2.1)) && decide (x.2.2.2.1 = y.2.2.2.1)) && decide (x.2.2.2.2 = y.2.2.2.2)) = decide (x = y) := by
  rw [Bool.eq_iff_iff]
  simp only [Bool.and_eq_true, decide_eq_true_eq]
  constructor
  · rintro ⟨⟨⟨⟨h1, h2⟩, h3⟩, h4⟩, h5⟩
    exact Prod.ext h1 (Prod.ext h2 (Prod.ext h3 (Prod.ext h4 h5)))
  · rintro rfl
    exact ⟨⟨⟨⟨rfl, rfl⟩, rfl⟩, rfl⟩, rfl⟩
theorem sn_dec (x y : Sn) : (((decide (x.1 = y.1) && decide (x.2.1 = y.2.1)) && decide (x.2.2.2 = y.2.2.2)) && decide (x.2.2.1 = y.2.2.1)) = decide (x = y) := by
  rw [Bool.eq_iff_iff]
  simp only [Bool.and_eq_true, decide_eq_true_eq]
  constructor
  · rintro ⟨⟨⟨h1, h2⟩, h4⟩, h3⟩
    exact Prod.ext h1 (Prod.ext h2 (Prod.ext h3 h4))
  · rintro rfl
    exact ⟨⟨⟨rfl, rfl⟩, rfl⟩, rfl⟩
instance instSv : DecidableEq Sv := fun a b => decidable_of_iff (a.term = b.term ∧ a.vote = b.vote ∧ a.snap = b.snap ∧ a.ents = b.ents ∧ a.sgs = b.sgs) (by
  obtain ⟨a1, a2, a3, a4, a5⟩ := a
  obtain ⟨b1, b2, b3, b4, b5⟩ := b
  simp only [Sv.mk.injEq])
theorem sv_same {x y : SvS} (h1 : x.t = y.t) (h2 : x.v = y.v) (h3 : x.sn = y.sn) (h4 : x.es.map Prod.fst = y.es.map Prod.fst) (h5 : x.gl = y.gl) : x.sv = y.sv := by
  unfold SvS.sv
  rw [h1, h2, h3, h4, h5]
theorem factsA_app {f0 : List Fact} {acc : List EnV} {p : EnV} : ∀ f ∈ f0 ++ (acc ++ [p]).map enA, f ∈ (f0 ++ acc.map enA) ++ [enA p] := by
  intro f hf
  simp only [List.map_append, List.mem_append, List.map_cons, List.map_nil] at hf ⊢
  rcases hf with h | h | h
  · exact .inl (.inl h)
  · exact .inl (.inr h)
  · exact .inr h
theorem enW_app (acc : List EnV) (p : EnV) : (acc.map enW).flatten ++ enW p = ((acc ++ [p]).map enW).flatten := by simp
theorem sz3re : (Try.prog.info? 3).map (·.size) = some 1 := by kernel_rfl
theorem sz9re : (Try.prog.info? 9).map (·.size) = some 1 := by kernel_rfl
theorem sz22re : (Try.prog.info? 22).map (·.size) = some 1 := by kernel_rfl
theorem sz24re : (Try.prog.info? 24).map (·.size) = some 2 := by kernel_rfl
theorem sz26re : (Try.prog.info? 26).map (·.size) = some 5 := by kernel_rfl
theorem sz27re : (Try.prog.info? 27).map (·.size) = some 1 := by kernel_rfl
theorem sz28re : (Try.prog.info? 28).map (·.size) = some 1 := by kernel_rfl
theorem sz30re : (Try.prog.info? 30).map (·.size) = some 9 := by kernel_rfl
theorem sz32re : (Try.prog.info? 32).map (·.size) = some 1 := by kernel_rfl
theorem sz37re : (Try.prog.info? 37).map (·.size) = some 38 := by kernel_rfl
theorem sz39re : (Try.prog.info? 39).map (·.size) = some 43 := by kernel_rfl
theorem sz43re : (Try.prog.info? 43).map (·.size) = some 97 := by kernel_rfl
theorem tx16re : Txt Try.prog 16 := txt_of Try.func16 rfl (by kernel_rfl)
theorem tx17re : Txt Try.prog 17 := txt_of Try.func17 rfl (by kernel_rfl)
theorem tx27re : Txt Try.prog 27 := txt_of Try.func27 rfl (by kernel_rfl)
theorem tx28re : Txt Try.prog 28 := txt_of Try.func28 rfl (by kernel_rfl)
theorem tx35re : Txt Try.prog 35 := txt_of Try.func35 rfl (by kernel_rfl)
theorem tx50re : Txt Try.prog 50 := txt_of Try.func50 rfl (by kernel_rfl)
theorem tx53re : Txt Try.prog 53 := txt_of Try.func53 rfl (by kernel_rfl)
theorem tx65re : Txt Try.prog 65 := txt_of Try.func65 rfl (by kernel_rfl)
theorem z24re : (Try.prog.info? 24).bind (·.zero) = some (.agg [.slice none 0 0, .slice none 0 0].toArray) := by kernel_rfl
theorem z26re : (Try.prog.info? 26).bind (·.zero) = some (.agg [.int .i64 0, .int .i64 0, .slice none 0 0, .slice none 0 0, .string ByteArray.empty].toArray) := by kernel_rfl
theorem z30re : (Try.prog.info? 30).bind (·.zero) = some (.agg [.int .i64 0, .int .i64 0, .int .i64 0, .int .i64 0, .slice none 0 0, .slice none 0 0, .string ByteArray.empty, .slice none 0 0, .slice none 0 0].toArray) := by kernel_rfl
theorem z39re : (Try.prog.info? 39).bind (·.zero) = some (.agg [.int .i64 0, .int .i64 0, .int .i64 0, .int .i64 0, .int .i64 0, .int .i64 0, .string ByteArray.empty, .string ByteArray.empty, .int .i64 0, .int .u8 0, .int .u8 0, .int .u8 0, .int .u8 0, .int .u8 0, .int .u8 0, .int .u8 0, .int .u8 0, .int .u8 0, .int .u8 0, .int .u8 0, .int .u8 0, .int .u8 0, .int .u8 0, .int .u8 0, .int .u8 0, .int .u8 0, .int .u8 0, .int .u8 0, .int .u8 0, .int .u8 0, .int .u8 0, .int .u8 0, .int .u8 0, .int .u8 0, .int .u8 0, .int .u8 0, .int .u8 0, .int .u8 0, .int .u8 0, .int .u8 0, .int .u8 0, .slice none 0 0, .slice none 0 0].toArray) := by kernel_rfl

theorem eqI_w (s1 s2 : Sp) (l1 l2 : List Int) (w : World) (f1 : FA w (factC 1 (.slice s1.1 l1.length s1.2) l1.length (ints l1))) (f2 : FA w (factC 1 (.slice s2.1 l2.length s2.2) l2.length (ints l2))) (hB : l1.length ≤ 17592186044416) :
    Calls Try.prog 65 #[.slice s1.1 l1.length s1.2, .slice s2.1 l2.length s2.2] w fun e w' => e = .returned (.bool (decide (l1 = l2))) ∧ Fr [] w w' := by
  refine calls_of (args := [.slice s1.1 l1.length s1.2, .slice s2.1 l2.length s2.2]) ([]) ([]) ([factC 1 (.slice s1.1 l1.length s1.2) l1.length (ints l1), factC 1 (.slice s2.1 l2.length s2.2) l2.length (ints l2)]) Try.func65 rfl rfl (okFW (.cons f1 (.cons f2 .nil))) ?_
  refine J_seq ?_
  refine J_region ?_
  refine L_v rfl rfl rfl (V_assign rfl rfl) ?_
  refine L_nil ?_
  change J _ _ _ _
  refine J_seq ?_
  refine J_seq ?_
  refine J_region ?_
  refine L_v rfl rfl rfl (V_move rfl rfl) ?_
  refine L_v rfl rfl rfl (V_len rfl rfl Try.underlying22 rfl) ?_
  refine L_v rfl rfl rfl (V_move rfl rfl) ?_
  refine L_v rfl rfl rfl (V_len rfl rfl Try.underlying22 rfl) ?_
  refine L_v rfl rfl rfl (V_neq rfl rfl rfl (by first | exact decide_eq_true (by omega) | exact decide_eq_false (by omega) | rfl)) ?_
  refine L_nil ?_
  change J _ _ _ _
  refine J_cond rfl (fun h1 => ?_) (fun h1 => ?_)
  ·
    first | (have h1 := of_decide_eq_true h1) | (have h1 := of_decide_eq_false h1) | skip
    refine J_seq ?_
    refine J_region ?_
    refine L_v rfl rfl rfl (V_assign rfl rfl) ?_
    refine L_nil ?_
    change J _ _ _ _
    refine J_ret ?_
    change Kret _ _ _ Exit.ret _
    refine ret1 rfl rfl (RV_t rfl) ?_
    exact fun w' h => ⟨by rw [decide_eq_false (eqs_len (by omega))], h.fr⟩
  ·
    first | (have h1 := of_decide_eq_true h1) | (have h1 := of_decide_eq_false h1) | skip
    refine J_skip ?_
    change J _ _ _ _
    refine J_seq ?_
    refine J_seq ?_
    refine J_region ?_
    refine L_v rfl rfl rfl (V_assign rfl rfl) ?_
    refine L_nil ?_
    change J _ _ _ _
    refine J_block ?_
    refine J_loop (X := Nat) (fun i => { env := [(0, .slice s1.1 l1.length s1.2), (1, .slice s2.1 l2.length s2.2), (5, .int .i64 (i : Int))], mem := [], facts := [factC 1 (.slice s1.1 l1.length s1.2) l1.length (ints l1), factC 1 (.slice s2.1 l2.length s2.2) l2.length (ints l2)] }) (fun i => i ≤ l1.length ∧ l1.take i = l2.take i) (fun i => l1.length - i) 0 ⟨Nat.zero_le _, rfl⟩ ⟨⟨rfl, rfl, rfl, trivial⟩, List.Sublist.refl _, fun f hf => hf, rfl⟩ ?_
    rintro i ⟨hi, ht⟩
    refine J_seq ?_
    refine J_seq ?_
    refine J_region ?_
    refine L_v rfl rfl rfl (V_move rfl rfl) ?_
    refine L_v rfl rfl rfl (V_move rfl rfl) ?_
    refine L_v rfl rfl rfl (V_len rfl rfl Try.underlying22 rfl) ?_
    refine L_v rfl rfl rfl (V_lss rfl rfl rfl (by first | exact decide_eq_true (by omega) | exact decide_eq_false (by omega) | rfl)) ?_
    refine L_nil ?_
    change J _ _ _ _
    refine J_cond rfl (fun h2 => ?_) (fun h2 => ?_)
    ·
      first | (have h2 := of_decide_eq_true h2) | (have h2 := of_decide_eq_false h2) | skip
      refine J_skip ?_
      change J _ _ _ _
      refine J_seq ?_
      refine J_block ?_
      refine J_seq ?_
      refine J_regionQ rfl (by kernel_rfl) ?_
      refine LQ_v rfl rfl rfl (V_move rfl rfl) ?_
      refine LQ_v rfl rfl rfl (V_move rfl rfl) ?_
      refine LQ_v rfl rfl rfl (V_indexC rfl rfl rfl Try.underlying22 sz3re (fun w hw => fC hw 0 rfl) (by omega) (by omega)) ?_
      refine LQ_v rfl rfl rfl (V_loadC rfl rfl Try.underlying3 rfl (fun w hw => fC hw 0 rfl) (rows_1 (by omega))) ?_
      refine LQ_v rfl rfl rfl (V_move rfl rfl) ?_
      refine LQ_v rfl rfl rfl (V_move rfl rfl) ?_
      refine LQ_v rfl rfl rfl (V_indexC rfl rfl rfl Try.underlying22 sz3re (fun w hw => fC hw 1 rfl) (by omega) (by omega)) ?_
      refine LQ_v rfl rfl rfl (V_loadC rfl rfl Try.underlying3 rfl (fun w hw => fC hw 1 rfl) (rows_1 (by omega))) ?_
      refine LQ_v rfl rfl rfl (V_neq rfl rfl rfl (by first | exact decide_eq_true (by omega) | exact decide_eq_false (by omega) | rfl)) ?_
      refine LQ_nil ?_
      change J _ _ _ _
      refine J_cond rfl (fun h3 => ?_) (fun h3 => ?_)
      ·
        first | (have h3 := of_decide_eq_true h3) | (have h3 := of_decide_eq_false h3) | skip
        refine J_seq ?_
        refine J_region ?_
        refine L_v rfl rfl rfl (V_assign rfl rfl) ?_
        refine L_nil ?_
        change J _ _ _ _
        refine J_ret ?_
        change Kret _ _ _ Exit.ret _
        refine ret1 rfl rfl (RV_t rfl) ?_
        exact fun w' h => ⟨by rw [decide_eq_false (eqs_ne 0 h3)], h.fr⟩
      ·
        first | (have h3 := of_decide_eq_true h3) | (have h3 := of_decide_eq_false h3) | skip
        refine J_skip ?_
        change J _ _ _ _
        refine J_region ?_
        refine L_v rfl rfl rfl (V_move rfl rfl) ?_
        refine L_v rfl rfl rfl (V_add rfl rfl rfl (by first | exact Go.IntWalk.i64_in _ (by omega) | rfl)) ?_
        refine L_v rfl rfl rfl (V_assign rfl rfl) ?_
        refine L_nil ?_
        exact ⟨i + 1, ⟨by omega, eqs_step 0 (by omega) (by omega) ht (Classical.byContradiction fun hc => h3 hc)⟩, by show l1.length - (i + 1) < l1.length - i; omega, ⟨rfl, rfl, rfl, trivial⟩, List.Sublist.refl _, fun f hf => hf, rfl⟩
    ·
      first | (have h2 := of_decide_eq_true h2) | (have h2 := of_decide_eq_false h2) | skip
      refine J_exit ?_
      change J _ _ _ _
      refine J_seq ?_
      refine J_region ?_
      refine L_v rfl rfl rfl (V_assign rfl rfl) ?_
      refine L_nil ?_
      change J _ _ _ _
      refine J_ret ?_
      change Kret _ _ _ Exit.ret _
      refine ret1 rfl rfl (RV_t rfl) ?_
      exact fun w' h => ⟨by rw [decide_eq_true (eqs_all (by omega) (by omega) ht)], h.fr⟩

theorem sameCouncil_w (x y : Cl) (a1 a2 c1 c2 : Sp) (w : World) (f1 : FA w (clA x a1 a2)) (f2 : FA w (clA y c1 c2)) (hB : SzC x) :
    Calls Try.prog 50 #[.agg (clX x a1 a2).toArray, .agg (clX y c1 c2).toArray] w fun e w' => e = .returned (.bool (decide (x = y))) ∧ Fr [] w w' := by
  refine calls_of (args := [.agg (clX x a1 a2).toArray, .agg (clX y c1 c2).toArray]) ([]) ([]) ([clA x a1 a2, clA y c1 c2]) Try.func50 rfl rfl (okFW (.cons f1 (.cons f2 .nil))) ?_
  refine J_seq ?_
  refine J_region ?_
  refine L_box rfl rfl rfl rfl rfl (fun b0 => ?_)
  refine L_box rfl rfl rfl rfl rfl (fun b1 => ?_)
  refine L_v rfl rfl rfl (V_assign rfl rfl) ?_
  refine L_nil ?_
  change J _ _ _ _
  refine J_seq ?_
  refine J_region ?_
  refine L_v rfl rfl rfl (V_fieldAddr rfl rfl Try.underlying24 rfl sz22re rfl) ?_
  refine L_v rfl rfl rfl (V_load1 0 rfl rfl rfl Try.underlying22 rfl (by rfl)) ?_
  refine L_v rfl rfl rfl (V_fieldAddr rfl rfl Try.underlying24 rfl sz22re rfl) ?_
  refine L_v rfl rfl rfl (V_load1 1 rfl rfl rfl Try.underlying22 rfl (by rfl)) ?_
  refine L_callV rfl rfl rfl rfl rfl rfl tx65re (fun w1 hw => eqI_w a1 c1 x.1 y.1 w1 (hw.fa 0 rfl).l (hw.fa 1 rfl).l hB.1) ?_
  refine L_v rfl rfl rfl (V_move rfl rfl) ?_
  apply L_and 5 10 16
  · rfl
  · rfl
  · rfl
  · rfl
  · rfl
  · rfl
  · rfl
  · kernel_rfl
  · intro hb1 _ _ hk1
    refine L_wv rfl rfl rfl rfl rfl rfl (V_fieldAddr rfl rfl Try.underlying24 rfl sz22re rfl) ?_
    refine L_wv rfl rfl rfl rfl rfl rfl (V_load1 0 rfl rfl rfl Try.underlying22 rfl (by rfl)) ?_
    refine L_wv rfl rfl rfl rfl rfl rfl (V_fieldAddr rfl rfl Try.underlying24 rfl sz22re rfl) ?_
    refine L_wv rfl rfl rfl rfl rfl rfl (V_load1 1 rfl rfl rfl Try.underlying22 rfl (by rfl)) ?_
    refine L_wcallV rfl rfl rfl rfl rfl rfl rfl rfl rfl tx65re (fun w1 hw => eqI_w a2 c2 x.2 y.2 w1 (hw.fa 0 rfl).r (hw.fa 1 rfl).r hB.2) ?_
    exact hk1 _ ⟨rfl, rfl, rfl, rfl, ext_cut 5 (by kernel_rfl) (by kernel_rfl)⟩
  refine L_v rfl rfl rfl (V_assign rfl rfl) ?_
  refine L_nil ?_
  change J _ _ _ _
  refine J_ret ?_
  change Kret _ _ _ Exit.ret _
  refine ret1 rfl rfl (RV_t rfl) ?_
  exact fun w' h => ⟨by rw [show decide (x = y) = (decide (x.1 = y.1) && decide (x.2 = y.2)) from by rw [Bool.eq_iff_iff]; simp [Prod.ext_iff]], h.fr⟩

theorem sameEntry_w (x y : En) (a1 a2 c1 c2 : Sp) (w : World) (f1 : FA w (clA x.2.2.2.2 a1 a2)) (f2 : FA w (clA y.2.2.2.2 c1 c2)) (hB : SzC x.2.2.2.2) :
    Calls Try.prog 28 #[.agg (enX x a1 a2).toArray, .agg (enX y c1 c2).toArray] w fun e w' => e = .returned (.bool (decide (x = y))) ∧ Fr [] w w' := by
  refine calls_of (args := [.agg (enX x a1 a2).toArray, .agg (enX y c1 c2).toArray]) ([]) ([]) ([clA x.2.2.2.2 a1 a2, clA y.2.2.2.2 c1 c2]) Try.func28 rfl rfl (okFW (.cons f1 (.cons f2 .nil))) ?_
  refine J_seq ?_
  refine J_region ?_
  refine L_box rfl rfl rfl rfl rfl (fun b0 => ?_)
  refine L_box rfl rfl rfl rfl rfl (fun b1 => ?_)
  refine L_v rfl rfl rfl (V_assign rfl rfl) ?_
  refine L_nil ?_
  change J _ _ _ _
  refine J_seq ?_
  refine J_region ?_
  refine L_v rfl rfl rfl (V_fieldAddr rfl rfl Try.underlying39 rfl sz3re rfl) ?_
  refine L_v rfl rfl rfl (V_load1 0 rfl rfl rfl Try.underlying3 rfl (by rfl)) ?_
  refine L_v rfl rfl rfl (V_fieldAddr rfl rfl Try.underlying39 rfl sz3re rfl) ?_
  refine L_v rfl rfl rfl (V_load1 1 rfl rfl rfl Try.underlying3 rfl (by rfl)) ?_
  refine L_v rfl rfl rfl (V_eql rfl rfl rfl rfl) ?_
  refine L_v rfl rfl rfl (V_move rfl rfl) ?_
  apply L_and 5 10 16
  · rfl
  · rfl
  · rfl
  · rfl
  · rfl
  · rfl
  · rfl
  · kernel_rfl
  · intro hb1 _ _ hk1
    refine L_wv rfl rfl rfl rfl rfl rfl (V_fieldAddr rfl rfl Try.underlying39 rfl sz3re rfl) ?_
    refine L_wv rfl rfl rfl rfl rfl rfl (V_load1 0 rfl rfl rfl Try.underlying3 rfl (by rfl)) ?_
    refine L_wv rfl rfl rfl rfl rfl rfl (V_fieldAddr rfl rfl Try.underlying39 rfl sz3re rfl) ?_
    refine L_wv rfl rfl rfl rfl rfl rfl (V_load1 1 rfl rfl rfl Try.underlying3 rfl (by rfl)) ?_
    refine L_wv rfl rfl rfl rfl rfl rfl (V_eql rfl rfl rfl rfl) ?_
    exact hk1 _ ⟨rfl, rfl, rfl, rfl, ext_cut 5 (by kernel_rfl) (by kernel_rfl)⟩
  refine L_v rfl rfl rfl (V_move rfl rfl) ?_
  apply L_and 5 17 23
  · rfl
  · rfl
  · rfl
  · rfl
  · rfl
  · rfl
  · rfl
  · kernel_rfl
  · intro hb2 _ _ hk2
    refine L_wv rfl rfl rfl rfl rfl rfl (V_fieldAddr rfl rfl Try.underlying39 rfl sz32re rfl) ?_
    refine L_wv rfl rfl rfl rfl rfl rfl (V_load1 0 rfl rfl rfl Try.underlying32 rfl (by rfl)) ?_
    refine L_wv rfl rfl rfl rfl rfl rfl (V_fieldAddr rfl rfl Try.underlying39 rfl sz32re rfl) ?_
    refine L_wv rfl rfl rfl rfl rfl rfl (V_load1 1 rfl rfl rfl Try.underlying32 rfl (by rfl)) ?_
    refine L_wv rfl rfl rfl rfl rfl rfl (V_eql rfl rfl rfl rfl) ?_
    exact hk2 _ ⟨rfl, rfl, rfl, rfl, ext_cut 5 (by kernel_rfl) (by kernel_rfl)⟩
  refine L_v rfl rfl rfl (V_move rfl rfl) ?_
  apply L_and 5 24 30
  · rfl
  · rfl
  · rfl
  · rfl
  · rfl
  · rfl
  · rfl
  · kernel_rfl
  · intro hb3 _ _ hk3
    refine L_wv rfl rfl rfl rfl rfl rfl (V_fieldAddr rfl rfl Try.underlying39 rfl sz37re rfl) ?_
    refine L_wv rfl rfl rfl rfl rfl rfl (V_loadT 0 (vs := cmdV x.2.2.2.1) rfl rfl rfl Try.underlying37 rfl sz37re (by kernel_rfl) (by kernel_rfl)) ?_
    refine L_wv rfl rfl rfl rfl rfl rfl (V_fieldAddr rfl rfl Try.underlying39 rfl sz37re rfl) ?_
    refine L_wv rfl rfl rfl rfl rfl rfl (V_loadT 1 (vs := cmdV y.2.2.2.1) rfl rfl rfl Try.underlying37 rfl sz37re (by kernel_rfl) (by kernel_rfl)) ?_
    refine L_wv rfl rfl rfl rfl rfl rfl (V_eqAgg rfl rfl rfl (by kernel_rfl : Try.prog.eqGuardType Try.prog.depth 37 = false) (fun w => eqCmdDO _ _ w) rfl) ?_
    exact hk3 _ ⟨rfl, rfl, rfl, rfl, ext_cut 5 (by kernel_rfl) (by kernel_rfl)⟩
  refine L_v rfl rfl rfl (V_move rfl rfl) ?_
  apply L_and 5 31 37
  · rfl
  · rfl
  · rfl
  · rfl
  · rfl
  · rfl
  · rfl
  · kernel_rfl
  · intro hb4 _ _ hk4
    refine L_wv rfl rfl rfl rfl rfl rfl (V_fieldAddr rfl rfl Try.underlying39 rfl sz24re rfl) ?_
    refine L_wv rfl rfl rfl rfl rfl rfl (V_loadT 0 (vs := clX x.2.2.2.2 a1 a2) rfl rfl rfl Try.underlying24 rfl sz24re (by kernel_rfl) (by kernel_rfl)) ?_
    refine L_wv rfl rfl rfl rfl rfl rfl (V_fieldAddr rfl rfl Try.underlying39 rfl sz24re rfl) ?_
    refine L_wv rfl rfl rfl rfl rfl rfl (V_loadT 1 (vs := clX y.2.2.2.2 c1 c2) rfl rfl rfl Try.underlying24 rfl sz24re (by kernel_rfl) (by kernel_rfl)) ?_
    refine L_wcallV rfl rfl rfl rfl rfl rfl rfl rfl rfl tx50re (fun w1 hw => sameCouncil_w x.2.2.2.2 y.2.2.2.2 a1 a2 c1 c2 w1 (hw.fa 0 rfl) (hw.fa 1 rfl) hB) ?_
    exact hk4 _ ⟨rfl, rfl, rfl, rfl, ext_cut 5 (by kernel_rfl) (by kernel_rfl)⟩
  refine L_v rfl rfl rfl (V_assign rfl rfl) ?_
  refine L_nil ?_
  change J _ _ _ _
  refine J_ret ?_
  change Kret _ _ _ Exit.ret _
  refine ret1 rfl rfl (RV_t rfl) ?_
  exact fun w' h => ⟨by rw [show decide (x = y) = _ from (en_dec x y).symm], h.fr⟩

theorem sameSnap_w (x y : Sn) (a1 a2 c1 c2 : Sp) (w : World) (f1 : FA w (clA x.2.2.1 a1 a2)) (f2 : FA w (clA y.2.2.1 c1 c2)) (hB : SzC x.2.2.1) :
    Calls Try.prog 27 #[.agg (snX x a1 a2).toArray, .agg (snX y c1 c2).toArray] w fun e w' => e = .returned (.bool (decide (x = y))) ∧ Fr [] w w' := by
  refine calls_of (args := [.agg (snX x a1 a2).toArray, .agg (snX y c1 c2).toArray]) ([]) ([]) ([clA x.2.2.1 a1 a2, clA y.2.2.1 c1 c2]) Try.func27 rfl rfl (okFW (.cons f1 (.cons f2 .nil))) ?_
  refine J_seq ?_
  refine J_region ?_
  refine L_box rfl rfl rfl rfl rfl (fun b0 => ?_)
  refine L_box rfl rfl rfl rfl rfl (fun b1 => ?_)
  refine L_v rfl rfl rfl (V_assign rfl rfl) ?_
  refine L_nil ?_
  change J _ _ _ _
  refine J_seq ?_
  refine J_region ?_
  refine L_v rfl rfl rfl (V_fieldAddr rfl rfl Try.underlying26 rfl sz3re rfl) ?_
  refine L_v rfl rfl rfl (V_load1 0 rfl rfl rfl Try.underlying3 rfl (by rfl)) ?_
  refine L_v rfl rfl rfl (V_fieldAddr rfl rfl Try.underlying26 rfl sz3re rfl) ?_
  refine L_v rfl rfl rfl (V_load1 1 rfl rfl rfl Try.underlying3 rfl (by rfl)) ?_
  refine L_v rfl rfl rfl (V_eql rfl rfl rfl rfl) ?_
  refine L_v rfl rfl rfl (V_move rfl rfl) ?_
  apply L_and 5 10 16
  · rfl
  · rfl
  · rfl
  · rfl
  · rfl
  · rfl
  · rfl
  · kernel_rfl
  · intro hb1 _ _ hk1
    refine L_wv rfl rfl rfl rfl rfl rfl (V_fieldAddr rfl rfl Try.underlying26 rfl sz3re rfl) ?_
    refine L_wv rfl rfl rfl rfl rfl rfl (V_load1 0 rfl rfl rfl Try.underlying3 rfl (by rfl)) ?_
    refine L_wv rfl rfl rfl rfl rfl rfl (V_fieldAddr rfl rfl Try.underlying26 rfl sz3re rfl) ?_
    refine L_wv rfl rfl rfl rfl rfl rfl (V_load1 1 rfl rfl rfl Try.underlying3 rfl (by rfl)) ?_
    refine L_wv rfl rfl rfl rfl rfl rfl (V_eql rfl rfl rfl rfl) ?_
    exact hk1 _ ⟨rfl, rfl, rfl, rfl, ext_cut 5 (by kernel_rfl) (by kernel_rfl)⟩
  refine L_v rfl rfl rfl (V_move rfl rfl) ?_
  apply L_and 5 17 23
  · rfl
  · rfl
  · rfl
  · rfl
  · rfl
  · rfl
  · rfl
  · kernel_rfl
  · intro hb2 _ _ hk2
    refine L_wv rfl rfl rfl rfl rfl rfl (V_fieldAddr rfl rfl Try.underlying26 rfl sz9re rfl) ?_
    refine L_wv rfl rfl rfl rfl rfl rfl (V_load1 0 rfl rfl rfl Try.underlying9 rfl (by rfl)) ?_
    refine L_wv rfl rfl rfl rfl rfl rfl (V_fieldAddr rfl rfl Try.underlying26 rfl sz9re rfl) ?_
    refine L_wv rfl rfl rfl rfl rfl rfl (V_load1 1 rfl rfl rfl Try.underlying9 rfl (by rfl)) ?_
    refine L_wv rfl rfl rfl rfl rfl rfl (V_eqS rfl rfl rfl rfl) ?_
    exact hk2 _ ⟨rfl, rfl, rfl, rfl, ext_cut 5 (by kernel_rfl) (by kernel_rfl)⟩
  refine L_v rfl rfl rfl (V_move rfl rfl) ?_
  apply L_and 5 24 30
  · rfl
  · rfl
  · rfl
  · rfl
  · rfl
  · rfl
  · rfl
  · kernel_rfl
  · intro hb3 _ _ hk3
    refine L_wv rfl rfl rfl rfl rfl rfl (V_fieldAddr rfl rfl Try.underlying26 rfl sz24re rfl) ?_
    refine L_wv rfl rfl rfl rfl rfl rfl (V_loadT 0 (vs := clX x.2.2.1 a1 a2) rfl rfl rfl Try.underlying24 rfl sz24re (by kernel_rfl) (by kernel_rfl)) ?_
    refine L_wv rfl rfl rfl rfl rfl rfl (V_fieldAddr rfl rfl Try.underlying26 rfl sz24re rfl) ?_
    refine L_wv rfl rfl rfl rfl rfl rfl (V_loadT 1 (vs := clX y.2.2.1 c1 c2) rfl rfl rfl Try.underlying24 rfl sz24re (by kernel_rfl) (by kernel_rfl)) ?_
    refine L_wcallV rfl rfl rfl rfl rfl rfl rfl rfl rfl tx50re (fun w1 hw => sameCouncil_w x.2.2.1 y.2.2.1 a1 a2 c1 c2 w1 (hw.fa 0 rfl) (hw.fa 1 rfl) hB) ?_
    exact hk3 _ ⟨rfl, rfl, rfl, rfl, ext_cut 5 (by kernel_rfl) (by kernel_rfl)⟩
  refine L_v rfl rfl rfl (V_assign rfl rfl) ?_
  refine L_nil ?_
  change J _ _ _ _
  refine J_ret ?_
  change Kret _ _ _ Exit.ret _
  refine ret1 rfl rfl (RV_t rfl) ?_
  exact fun w' h => ⟨by rw [show decide (x = y) = _ from (sn_dec x y).symm], h.fr⟩

set_option maxHeartbeats 2000000 in
theorem same_w (x : SvS) (s u : Sp) (y : SvS) (s2 u2 : Sp) (w : World) (f1 : FA w (svF x s u)) (f2 : FA w (svF y s2 u2)) (hz : SzB x) :
    Calls Try.prog 11 #[.agg (svX x s u).toArray, .agg (svX y s2 u2).toArray] w fun e w' => e = .returned (.bool (decide (x.sv = y.sv))) ∧ Fr [] w w' := by
  obtain ⟨_, _, hz3, hz4, _⟩ := id hz
  refine calls_of (args := [.agg (svX x s u).toArray, .agg (svX y s2 u2).toArray]) ([]) ([]) ([svF x s u, svF y s2 u2]) Try.func11 rfl rfl (okFW (.cons f1 (.cons f2 .nil))) ?_
  refine J_seq ?_
  refine J_region ?_
  refine L_box rfl rfl rfl rfl rfl (fun b0 => ?_)
  refine L_box rfl rfl rfl rfl rfl (fun b1 => ?_)
  refine L_v rfl rfl rfl (V_assign rfl rfl) ?_
  refine L_nil ?_
  change J _ _ _ _
  refine J_seq ?_
  refine J_seq ?_
  refine J_region ?_
  refine L_v rfl rfl rfl (V_fieldAddr rfl rfl Try.underlying30 rfl sz3re rfl) ?_
  refine L_v rfl rfl rfl (V_load1 0 rfl rfl rfl Try.underlying3 rfl (by rfl)) ?_
  refine L_v rfl rfl rfl (V_fieldAddr rfl rfl Try.underlying30 rfl sz3re rfl) ?_
  refine L_v rfl rfl rfl (V_load1 1 rfl rfl rfl Try.underlying3 rfl (by rfl)) ?_
  refine L_v rfl rfl rfl (V_neq rfl rfl rfl (by first | exact decide_eq_true (by omega) | exact decide_eq_false (by omega) | rfl)) ?_
  refine L_v rfl rfl rfl (V_move rfl rfl) ?_
  apply L_or 5 12 18
  · rfl
  · rfl
  · rfl
  · rfl
  · rfl
  · rfl
  · rfl
  · kernel_rfl
  · intro hb1 _ _ hk1
    refine L_wv rfl rfl rfl rfl rfl rfl (V_fieldAddr rfl rfl Try.underlying30 rfl sz3re rfl) ?_
    refine L_wv rfl rfl rfl rfl rfl rfl (V_load1 0 rfl rfl rfl Try.underlying3 rfl (by rfl)) ?_
    refine L_wv rfl rfl rfl rfl rfl rfl (V_fieldAddr rfl rfl Try.underlying30 rfl sz3re rfl) ?_
    refine L_wv rfl rfl rfl rfl rfl rfl (V_load1 1 rfl rfl rfl Try.underlying3 rfl (by rfl)) ?_
    refine L_wv rfl rfl rfl rfl rfl rfl (V_neq rfl rfl rfl (by first | exact decide_eq_true (by omega) | exact decide_eq_false (by omega) | rfl)) ?_
    exact hk1 _ ⟨rfl, rfl, rfl, rfl, ext_cut 5 (by kernel_rfl) (by kernel_rfl)⟩
  refine L_v rfl rfl rfl (V_move rfl rfl) ?_
  apply L_or 7 19 27
  · rfl
  · rfl
  · rfl
  · rfl
  · rfl
  · rfl
  · rfl
  · kernel_rfl
  · intro hb2 _ _ hk2
    refine L_wv rfl rfl rfl rfl rfl rfl (V_fieldAddr rfl rfl Try.underlying30 rfl sz27re rfl) ?_
    refine L_wv rfl rfl rfl rfl rfl rfl (V_load1 0 rfl rfl rfl Try.underlying27 rfl (by rfl)) ?_
    refine L_wv rfl rfl rfl rfl rfl rfl (V_len rfl rfl Try.underlying27 rfl) ?_
    refine L_wv rfl rfl rfl rfl rfl rfl (V_fieldAddr rfl rfl Try.underlying30 rfl sz27re rfl) ?_
    refine L_wv rfl rfl rfl rfl rfl rfl (V_load1 1 rfl rfl rfl Try.underlying27 rfl (by rfl)) ?_
    refine L_wv rfl rfl rfl rfl rfl rfl (V_len rfl rfl Try.underlying27 rfl) ?_
    refine L_wv rfl rfl rfl rfl rfl rfl (V_neq rfl rfl rfl (by first | exact decide_eq_true (by omega) | exact decide_eq_false (by omega) | rfl)) ?_
    exact hk2 _ ⟨rfl, rfl, rfl, rfl, ext_cut 7 (by kernel_rfl) (by kernel_rfl)⟩
  refine L_v rfl rfl rfl (V_move rfl rfl) ?_
  apply L_or 7 28 36
  · rfl
  · rfl
  · rfl
  · rfl
  · rfl
  · rfl
  · rfl
  · kernel_rfl
  · intro hb3 _ _ hk3
    refine L_wv rfl rfl rfl rfl rfl rfl (V_fieldAddr rfl rfl Try.underlying30 rfl sz28re rfl) ?_
    refine L_wv rfl rfl rfl rfl rfl rfl (V_load1 0 rfl rfl rfl Try.underlying28 rfl (by rfl)) ?_
    refine L_wv rfl rfl rfl rfl rfl rfl (V_len rfl rfl Try.underlying28 rfl) ?_
    refine L_wv rfl rfl rfl rfl rfl rfl (V_fieldAddr rfl rfl Try.underlying30 rfl sz28re rfl) ?_
    refine L_wv rfl rfl rfl rfl rfl rfl (V_load1 1 rfl rfl rfl Try.underlying28 rfl (by rfl)) ?_
    refine L_wv rfl rfl rfl rfl rfl rfl (V_len rfl rfl Try.underlying28 rfl) ?_
    refine L_wv rfl rfl rfl rfl rfl rfl (V_neq rfl rfl rfl (by first | exact decide_eq_true (by omega) | exact decide_eq_false (by omega) | rfl)) ?_
    exact hk3 _ ⟨rfl, rfl, rfl, rfl, ext_cut 7 (by kernel_rfl) (by kernel_rfl)⟩
  refine L_v rfl rfl rfl (V_move rfl rfl) ?_
  apply L_or 6 37 44
  · rfl
  · rfl
  · rfl
  · rfl
  · rfl
  · rfl
  · rfl
  · kernel_rfl
  · intro hb4 _ _ hk4
    refine L_wv rfl rfl rfl rfl rfl rfl (V_fieldAddr rfl rfl Try.underlying30 rfl sz26re rfl) ?_
    refine L_wv rfl rfl rfl rfl rfl rfl (V_loadT 0 (vs := snX x.sn x.a x.b) rfl rfl rfl Try.underlying26 rfl sz26re (by kernel_rfl) (by kernel_rfl)) ?_
    refine L_wv rfl rfl rfl rfl rfl rfl (V_fieldAddr rfl rfl Try.underlying30 rfl sz26re rfl) ?_
    refine L_wv rfl rfl rfl rfl rfl rfl (V_loadT 1 (vs := snX y.sn y.a y.b) rfl rfl rfl Try.underlying26 rfl sz26re (by kernel_rfl) (by kernel_rfl)) ?_
    refine L_wcallV rfl rfl rfl rfl rfl rfl rfl rfl rfl tx27re (fun w1 hw => sameSnap_w x.sn y.sn x.a x.b y.a y.b w1 (hw.fa 0 rfl).l (hw.fa 1 rfl).l hz.1) ?_
    refine L_wv rfl rfl rfl rfl rfl rfl (V_not rfl rfl rfl) ?_
    exact hk4 _ ⟨rfl, rfl, rfl, rfl, ext_cut 6 (by kernel_rfl) (by kernel_rfl)⟩
  refine L_nil ?_
  change J _ _ _ _
  refine J_cond rfl (fun h5 => ?_) (fun h5 => ?_)
  ·
    first | (have h5 := of_decide_eq_true h5) | (have h5 := of_decide_eq_false h5) | skip
    refine J_seq ?_
    refine J_region ?_
    refine L_v rfl rfl rfl (V_assign rfl rfl) ?_
    refine L_nil ?_
    change J _ _ _ _
    refine J_ret ?_
    change Kret _ _ _ Exit.ret _
    refine ret1 rfl rfl (RV_t rfl) ?_
    exact fun w' h => ⟨by rw [decide_eq_false (fun hc => by
      have c1 : x.t = y.t := congrArg Sv.term hc
      have c2 : x.v = y.v := congrArg Sv.vote hc
      have c3 : x.sn = y.sn := congrArg Sv.snap hc
      have c4 : x.es.length = y.es.length := (ent_len hc).trans svEnts
      have c5 : x.gl.length = y.gl.length := congrArg (fun s => s.sgs.length) hc
      simp [c1, c2, c3, c4, c5] at h5)], h.fr⟩
  ·
    first | (have h5 := of_decide_eq_true h5) | (have h5 := of_decide_eq_false h5) | skip
    simp only [Bool.or_eq_false_iff, decide_eq_false_iff_not, Classical.not_not, Bool.not_eq_false', decide_eq_true_eq] at h5
    obtain ⟨⟨⟨⟨c1, c2⟩, c4⟩, c5⟩, c3⟩ := h5
    refine J_skip ?_
    change J _ _ _ _
    refine J_seq ?_
    refine J_seq ?_
    refine J_region ?_
    refine L_v rfl rfl rfl (V_assign rfl rfl) ?_
    refine L_nil ?_
    change J _ _ _ _
    refine J_block ?_
    refine J_loop (X := Nat) (fun i => { env := [(2, .pointer (some ⟨b0, 0, none⟩)), (3, .pointer (some ⟨b1, 0, none⟩)), (5, .int .i64 (i : Int))], mem := [(b0, row 30 (svX x s u)), (b1, row 30 (svX y s2 u2))], facts := [svF x s u, svF y s2 u2] }) (fun i => i ≤ x.es.length ∧ (x.es.map Prod.fst).take i = (y.es.map Prod.fst).take i) (fun i => x.es.length - i) 0 ⟨Nat.zero_le _, rfl⟩ ⟨⟨rfl, rfl, rfl, trivial⟩, List.Sublist.refl _, fun f hf => hf, rfl⟩ ?_
    rintro i ⟨hi, ht⟩
    try simp only at hi ht ⊢
    refine J_seq ?_
    refine J_seq ?_
    refine J_region ?_
    refine L_v rfl rfl rfl (V_move rfl rfl) ?_
    refine L_v rfl rfl rfl (V_fieldAddr rfl rfl Try.underlying30 rfl sz27re rfl) ?_
    refine L_v rfl rfl rfl (V_load1 0 rfl rfl rfl Try.underlying27 rfl (by rfl)) ?_
    refine L_v rfl rfl rfl (V_len rfl rfl Try.underlying27 rfl) ?_
    refine L_v rfl rfl rfl (V_lss rfl rfl rfl (by first | exact decide_eq_true (by omega) | exact decide_eq_false (by omega) | rfl)) ?_
    refine L_nil ?_
    change J _ _ _ _
    refine J_cond rfl (fun h6 => ?_) (fun h6 => ?_)
    ·
      first | (have h6 := of_decide_eq_true h6) | (have h6 := of_decide_eq_false h6) | skip
      have e1 := getD_map' Prod.fst env0 en0 (show i < x.es.length by omega)
      have e2 := getD_map' Prod.fst env0 en0 (show i < y.es.length by omega)
      refine J_skip ?_
      change J _ _ _ _
      refine J_seq ?_
      refine J_block ?_
      refine J_seq ?_
      refine J_regionQ rfl (by kernel_rfl) ?_
      refine LQ_v rfl rfl rfl (V_fieldAddr rfl rfl Try.underlying30 rfl sz27re rfl) ?_
      refine LQ_v rfl rfl rfl (V_load1 0 rfl rfl rfl Try.underlying27 rfl (by rfl)) ?_
      refine LQ_v rfl rfl rfl (V_move rfl rfl) ?_
      refine LQ_v rfl rfl rfl (V_indexC rfl rfl rfl Try.underlying27 sz39re (fun w hw => (hw.fa 0 rfl).r.l.l.1) (by omega) (by omega)) ?_
      refine LQ_v rfl rfl rfl (V_loadCN (vs := enX ((x.es.getD i env0).1) ((x.es.getD i env0).2.1) ((x.es.getD i env0).2.2)) rfl rfl Try.underlying39 rfl (szd sz39re (by kernel_rfl)) (fun w hw => (hw.fa 0 rfl).r.l.l.1) (by exact Nat.zero_lt_succ _) (rows_v (f := enW) env0 (sz := 42) (fun _ => rfl) (by omega))) ?_
      refine LQ_v rfl rfl rfl (V_fieldAddr rfl rfl Try.underlying30 rfl sz27re rfl) ?_
      refine LQ_v rfl rfl rfl (V_load1 1 rfl rfl rfl Try.underlying27 rfl (by rfl)) ?_
      refine LQ_v rfl rfl rfl (V_move rfl rfl) ?_
      refine LQ_v rfl rfl rfl (V_indexC rfl rfl rfl Try.underlying27 sz39re (fun w hw => (hw.fa 1 rfl).r.l.l.1) (by omega) (by omega)) ?_
      refine LQ_v rfl rfl rfl (V_loadCN (vs := enX ((y.es.getD i env0).1) ((y.es.getD i env0).2.1) ((y.es.getD i env0).2.2)) rfl rfl Try.underlying39 rfl (szd sz39re (by kernel_rfl)) (fun w hw => (hw.fa 1 rfl).r.l.l.1) (by exact Nat.zero_lt_succ _) (rows_v (f := enW) env0 (sz := 42) (fun _ => rfl) (by omega))) ?_
      refine LQ_callV rfl rfl rfl rfl rfl rfl tx28re (fun w1 hw => sameEntry_w (x.es.getD i env0).1 (y.es.getD i env0).1 _ _ _ _ w1 ((hw.fa 0 rfl).r.l.r.of (List.mem_map.2 ⟨_, getD_mem (by omega), rfl⟩)) ((hw.fa 1 rfl).r.l.r.of (List.mem_map.2 ⟨_, getD_mem (by omega), rfl⟩)) (hz.2.1 _ (getD_mem (by omega)))) ?_
      refine LQ_v rfl rfl rfl (V_not rfl rfl rfl) ?_
      refine LQ_nil ?_
      change J _ _ _ _
      refine J_cond rfl (fun h7 => ?_) (fun h7 => ?_)
      ·
        first | (have h7 := of_decide_eq_true h7) | (have h7 := of_decide_eq_false h7) | skip
        refine J_seq ?_
        refine J_region ?_
        refine L_v rfl rfl rfl (V_assign rfl rfl) ?_
        refine L_nil ?_
        change J _ _ _ _
        refine J_ret ?_
        change Kret _ _ _ Exit.ret _
        refine ret1 rfl rfl (RV_t rfl) ?_
        exact fun w' h => ⟨by rw [decide_eq_false (fun hc => absurd (congrArg Sv.ents hc) (eqs_ne en0 (by show ((x.es.map Prod.fst).getD i en0) ≠ ((y.es.map Prod.fst).getD i en0); rw [e1, e2]; simpa using h7)))], h.fr⟩
      ·
        first | (have h7 := of_decide_eq_true h7) | (have h7 := of_decide_eq_false h7) | skip
        refine J_skip ?_
        change J _ _ _ _
        refine J_region ?_
        refine L_v rfl rfl rfl (V_move rfl rfl) ?_
        refine L_v rfl rfl rfl (V_add rfl rfl rfl (by first | exact Go.IntWalk.i64_in _ (by omega) | rfl)) ?_
        refine L_v rfl rfl rfl (V_assign rfl rfl) ?_
        refine L_nil ?_
        exact ⟨i + 1, ⟨by show i + 1 ≤ x.es.length; omega, eqs_step en0 (by rw [List.length_map]; omega) (by rw [List.length_map]; omega) ht (by rw [e1, e2]; simpa using h7)⟩, by show x.es.length - (i + 1) < x.es.length - i; omega, ⟨rfl, rfl, rfl, trivial⟩, List.Sublist.refl _, fun f hf => hf, rfl⟩
    ·
      first | (have h6 := of_decide_eq_true h6) | (have h6 := of_decide_eq_false h6) | skip
      have hee := eqs_all (by rw [List.length_map, List.length_map]; omega) (by rw [List.length_map]; omega) ht
      refine J_exit ?_
      change J _ _ _ _
      refine J_seq ?_
      refine J_seq ?_
      refine J_region ?_
      refine L_v rfl rfl rfl (V_assign rfl rfl) ?_
      refine L_nil ?_
      change J _ _ _ _
      refine J_block ?_
      refine J_loop (X := Nat) (fun i => { env := [(2, .pointer (some ⟨b0, 0, none⟩)), (3, .pointer (some ⟨b1, 0, none⟩)), (6, .int .i64 (i : Int))], mem := [(b0, row 30 (svX x s u)), (b1, row 30 (svX y s2 u2))], facts := [svF x s u, svF y s2 u2] }) (fun i => i ≤ x.gl.length ∧ x.gl.take i = y.gl.take i) (fun i => x.gl.length - i) 0 ⟨Nat.zero_le _, rfl⟩ ⟨⟨rfl, rfl, rfl, trivial⟩, List.Sublist.refl _, fun f hf => hf, rfl⟩ ?_
      rintro i ⟨hi, ht⟩
      try simp only at hi ht ⊢
      refine J_seq ?_
      refine J_seq ?_
      refine J_region ?_
      refine L_v rfl rfl rfl (V_move rfl rfl) ?_
      refine L_v rfl rfl rfl (V_fieldAddr rfl rfl Try.underlying30 rfl sz28re rfl) ?_
      refine L_v rfl rfl rfl (V_load1 0 rfl rfl rfl Try.underlying28 rfl (by rfl)) ?_
      refine L_v rfl rfl rfl (V_len rfl rfl Try.underlying28 rfl) ?_
      refine L_v rfl rfl rfl (V_lss rfl rfl rfl (by first | exact decide_eq_true (by omega) | exact decide_eq_false (by omega) | rfl)) ?_
      refine L_nil ?_
      change J _ _ _ _
      refine J_cond rfl (fun h7 => ?_) (fun h7 => ?_)
      ·
        first | (have h7 := of_decide_eq_true h7) | (have h7 := of_decide_eq_false h7) | skip
        refine J_skip ?_
        change J _ _ _ _
        refine J_seq ?_
        refine J_block ?_
        refine J_seq ?_
        refine J_regionQ rfl (by kernel_rfl) ?_
        refine LQ_v rfl rfl rfl (V_fieldAddr rfl rfl Try.underlying30 rfl sz28re rfl) ?_
        refine LQ_v rfl rfl rfl (V_load1 0 rfl rfl rfl Try.underlying28 rfl (by rfl)) ?_
        refine LQ_v rfl rfl rfl (V_move rfl rfl) ?_
        refine LQ_v rfl rfl rfl (V_indexC rfl rfl rfl Try.underlying28 sz43re (fun w hw => (hw.fa 0 rfl).r.r.1) (by omega) (by omega)) ?_
        refine LQ_v rfl rfl rfl (V_loadCN (vs := sgV (x.gl.getD i sg0)) rfl rfl Try.underlying43 rfl (szd sz43re (by kernel_rfl)) (fun w hw => (hw.fa 0 rfl).r.r.1) (by exact Nat.zero_lt_succ _) (rows_v (f := sgV) sg0 (sz := 96) (fun _ => rfl) (by omega))) ?_
        refine LQ_v rfl rfl rfl (V_fieldAddr rfl rfl Try.underlying30 rfl sz28re rfl) ?_
        refine LQ_v rfl rfl rfl (V_load1 1 rfl rfl rfl Try.underlying28 rfl (by rfl)) ?_
        refine LQ_v rfl rfl rfl (V_move rfl rfl) ?_
        refine LQ_v rfl rfl rfl (V_indexC rfl rfl rfl Try.underlying28 sz43re (fun w hw => (hw.fa 1 rfl).r.r.1) (by omega) (by omega)) ?_
        refine LQ_v rfl rfl rfl (V_loadCN (vs := sgV (y.gl.getD i sg0)) rfl rfl Try.underlying43 rfl (szd sz43re (by kernel_rfl)) (fun w hw => (hw.fa 1 rfl).r.r.1) (by exact Nat.zero_lt_succ _) (rows_v (f := sgV) sg0 (sz := 96) (fun _ => rfl) (by omega))) ?_
        refine LQ_v rfl rfl rfl (V_neAgg rfl rfl rfl (by kernel_rfl : Try.prog.eqGuardType Try.prog.depth 43 = false) (fun w => eqSgDO _ _ w) decide_not.symm) ?_
        refine LQ_nil ?_
        change J _ _ _ _
        refine J_cond rfl (fun h8 => ?_) (fun h8 => ?_)
        ·
          first | (have h8 := of_decide_eq_true h8) | (have h8 := of_decide_eq_false h8) | skip
          refine J_seq ?_
          refine J_region ?_
          refine L_v rfl rfl rfl (V_assign rfl rfl) ?_
          refine L_nil ?_
          change J _ _ _ _
          refine J_ret ?_
          change Kret _ _ _ Exit.ret _
          refine ret1 rfl rfl (RV_t rfl) ?_
          exact fun w' h => ⟨by rw [decide_eq_false (fun hc => absurd (congrArg Sv.sgs hc) (eqs_ne sg0 h8))], h.fr⟩
        ·
          first | (have h8 := of_decide_eq_true h8) | (have h8 := of_decide_eq_false h8) | skip
          refine J_skip ?_
          change J _ _ _ _
          refine J_region ?_
          refine L_v rfl rfl rfl (V_move rfl rfl) ?_
          refine L_v rfl rfl rfl (V_add rfl rfl rfl (by first | exact Go.IntWalk.i64_in _ (by omega) | rfl)) ?_
          refine L_v rfl rfl rfl (V_assign rfl rfl) ?_
          refine L_nil ?_
          exact ⟨i + 1, ⟨by show i + 1 ≤ x.gl.length; omega, eqs_step sg0 (by omega) (by omega) ht (Classical.byContradiction fun hc => h8 hc)⟩, by show x.gl.length - (i + 1) < x.gl.length - i; omega, ⟨rfl, rfl, rfl, trivial⟩, List.Sublist.refl _, fun f hf => hf, rfl⟩
      ·
        first | (have h7 := of_decide_eq_true h7) | (have h7 := of_decide_eq_false h7) | skip
        refine J_exit ?_
        change J _ _ _ _
        refine J_seq ?_
        refine J_region ?_
        refine L_v rfl rfl rfl (V_assign rfl rfl) ?_
        refine L_nil ?_
        change J _ _ _ _
        refine J_ret ?_
        change Kret _ _ _ Exit.ret _
        refine ret1 rfl rfl (RV_t rfl) ?_
        have hgg := eqs_all (by omega) (by omega) ht
        exact fun w' h => ⟨by rw [decide_eq_true (sv_same c1 c2 c3 hee hgg)], h.fr⟩

theorem numbers_w (s : Sp) (l : List Int) (w : World) (f1 : FA w (factC 1 (.slice s.1 l.length s.2) l.length (ints l))) (hB : l.length ≤ 17592186044416) :
    Calls Try.prog 53 #[.slice s.1 l.length s.2] w fun e w' => ∃ s' : Sp, e = .returned (.slice s'.1 l.length s'.2) ∧ Fr [] w w' ∧ NewF w w' (factC 1 (.slice s'.1 l.length s'.2) l.length (ints l)) := by
  refine calls_of (args := [.slice s.1 l.length s.2]) ([]) ([]) ([factC 1 (.slice s.1 l.length s.2) l.length (ints l)]) Try.func53 rfl rfl (okFW (.cons f1 .nil)) ?_
  refine J_seq ?_
  refine J_region ?_
  refine L_v rfl rfl rfl (V_assign rfl rfl) ?_
  refine L_nil ?_
  change J _ _ _ _
  refine J_seq ?_
  refine J_region ?_
  refine L_v rfl rfl rfl (V_assign rfl rfl) ?_
  refine L_nil ?_
  change J _ _ _ _
  refine J_seq ?_
  refine J_region ?_
  refine L_v rfl rfl rfl (V_move rfl rfl) ?_
  refine L_v rfl rfl rfl (V_move rfl rfl) ?_
  refine L_appL ([]) none [] (m := l.length) (n' := l.length) (news := ints l) (ks' := ints l) rfl rfl rfl rfl rfl Try.underlying22 elI (List.append_nil _).symm ⟨rfl, rfl⟩ (fun w1 hw => src_C Try.underlying22 (hw.fa 0 rfl).1 (one_ints l)) (Nat.zero_add _) (List.nil_append _) (by omega) (by omega) (fun q1 hq1 => ?_)
  refine L_v rfl rfl rfl (V_assign rfl rfl) ?_
  refine L_nil ?_
  change J _ _ _ _
  refine J_seq ?_
  refine J_region ?_
  refine L_v rfl rfl rfl (V_move rfl rfl) ?_
  refine L_v rfl rfl rfl (V_assign rfl rfl) ?_
  refine L_nil ?_
  change J _ _ _ _
  refine J_ret ?_
  change Kret _ _ _ Exit.ret _
  refine ret1 rfl rfl (RV_t rfl) ?_
  exact fun w' h => ⟨(oA q1, oC q1), rfl, h.fr, NewF.own h rfl (fun x hx => hx) hq1⟩

theorem ownCouncil_w (x : Cl) (a1 a2 : Sp) (w : World) (f1 : FA w (clA x a1 a2)) (hB : SzC x) :
    Calls Try.prog 35 #[.agg (clX x a1 a2).toArray] w fun e w' => ∃ s1 s2 : Sp, e = .returned (.agg (clX x s1 s2).toArray) ∧ Fr [] w w' ∧ NewF w w' (clA x s1 s2) := by
  refine calls_of (args := [.agg (clX x a1 a2).toArray]) ([]) ([]) ([clA x a1 a2]) Try.func35 rfl rfl (okFW (.cons f1 .nil)) ?_
  refine J_seq ?_
  refine J_region ?_
  refine L_box rfl rfl rfl rfl rfl (fun b0 => ?_)
  refine L_alloc rfl rfl rfl rfl z24re (fun b1 => ?_)
  refine L_nil ?_
  change J _ _ _ _
  refine J_seq ?_
  refine J_regionO (.pure 0 (.pure 1 (.pure 3 (.pure 4 (.one 2 (.one 5 (.pure 6 (.one 7 (.nil))))))))) ([(b0, row 24 (clX x a1 a2))]) _ (Pk.of_sub (List.Sublist.cons_cons _ (List.nil_sublist _))) (fun f hf => hf) rfl rfl (by kernel_rfl) ?_
  refine LO_v rfl rfl rfl rfl (V_fieldAddr rfl rfl Try.underlying24 rfl sz22re rfl) ?_
  refine LO_v rfl rfl rfl rfl (V_load1 0 rfl rfl rfl Try.underlying22 rfl (by rfl)) ?_
  refine LO_v rfl rfl rfl rfl (V_fieldAddr rfl rfl Try.underlying24 rfl sz22re rfl) ?_
  refine LO_v rfl rfl rfl rfl (V_load1 0 rfl rfl rfl Try.underlying22 rfl (by rfl)) ?_
  refine LO_s rfl rfl rfl (S_call rfl rfl rfl tx53re (fun w1 hw => (numbers_w a1 x.1 w1 (hw.fa 0 rfl).l hB.1).mono ?_))
  rintro e w' ⟨s1, rfl, hfr, hn1⟩
  have n1 : ∀ k, (_ : Fact).fp k → w.heap.size ≤ k := fun k hk => Nat.le_trans hw.fr.size (hn1.new k hk)
  refine ⟨_, _, _, rfl, hw.newN hfr hn1, rfl, (Pk.of_sub (List.Sublist.cons_cons _ (List.nil_sublist _))), (fun f hf => List.mem_append_left _ (hf)), ?_⟩
  refine LO_s rfl rfl rfl (S_call rfl rfl rfl tx53re (fun w1 hw => (numbers_w a2 x.2 w1 (hw.fa 0 rfl).r hB.2).mono ?_))
  rintro e w' ⟨s2, rfl, hfr, hn2⟩
  have n2 : ∀ k, (_ : Fact).fp k → w.heap.size ≤ k := fun k hk => Nat.le_trans hw.fr.size (hn2.new k hk)
  refine ⟨_, _, _, rfl, hw.newN hfr hn2, rfl, (Pk.of_sub (List.Sublist.cons_cons _ (List.nil_sublist _))), (fun f hf => List.mem_append_left _ (List.mem_append_left _ (hf))), ?_⟩
  refine LO_v rfl rfl rfl rfl (V_buildE (v := .agg (clX x s1 s2).toArray) rfl rfl (fun w => by kernel_rfl)) ?_
  refine LO_s rfl rfl rfl (S_storeW 1 rfl rfl rfl rfl rfl (szd sz24re (by kernel_rfl)) (all_one (by kernel_rfl)) (by kernel_rfl) ⟨(Pk.of_sub (List.Sublist.cons_cons _ (List.nil_sublist _))), (fun f hf => List.mem_append_left _ (List.mem_append_left _ (hf))), ?_⟩)
  refine LO_nil ?_
  change J _ _ _ _
  refine J_ret ?_
  change Kret _ _ _ Exit.ret _
  refine ret1 rfl rfl (RV_c 1 rfl rfl Try.underlying24 rfl (szd sz24re (by kernel_rfl))) ?_
  exact fun w' h => ⟨s1, s2, rfl, h.fr, (NewF.at h 1 rfl n1).and (NewF.at h 2 rfl n2)⟩

theorem ownSnap_w (x : Sn) (a1 a2 : Sp) (w : World) (f1 : FA w (clA x.2.2.1 a1 a2)) (hB : SzC x.2.2.1) :
    Calls Try.prog 16 #[.agg (snX x a1 a2).toArray] w fun e w' => ∃ s1 s2 : Sp, e = .returned (.agg (snX x s1 s2).toArray) ∧ Fr [] w w' ∧ NewF w w' (clA x.2.2.1 s1 s2) := by
  refine calls_of (args := [.agg (snX x a1 a2).toArray]) ([]) ([]) ([clA x.2.2.1 a1 a2]) Try.func16 rfl rfl (okFW (.cons f1 .nil)) ?_
  refine J_seq ?_
  refine J_region ?_
  refine L_box rfl rfl rfl rfl rfl (fun b0 => ?_)
  refine L_alloc rfl rfl rfl rfl z26re (fun b1 => ?_)
  refine L_nil ?_
  change J _ _ _ _
  refine J_seq ?_
  refine J_region ?_
  refine L_v rfl rfl rfl (V_fieldAddr rfl rfl Try.underlying26 rfl sz24re rfl) ?_
  refine L_v rfl rfl rfl (V_loadT 0 (vs := clX x.2.2.1 a1 a2) rfl rfl rfl Try.underlying24 rfl sz24re (by kernel_rfl) (by kernel_rfl)) ?_
  refine L_call rfl rfl rfl rfl tx35re (fun w1 hw => (ownCouncil_w x.2.2.1 a1 a2 w1 (hw.fa 0 rfl) hB).mono ?_)
  rintro e w' ⟨s1, s2, rfl, hfr, hn1⟩
  have n1 : ∀ k, (_ : Fact).fp k → w.heap.size ≤ k := fun k hk => Nat.le_trans hw.fr.size (hn1.new k hk)
  refine ⟨_, _, _, rfl, hw.newN hfr hn1, rfl, ?_⟩
  refine L_v rfl rfl rfl (V_fieldAddr rfl rfl Try.underlying26 rfl sz24re rfl) ?_
  refine L_storeT 0 (l' := snX x s1 s2) rfl rfl rfl rfl rfl rfl (szd sz24re (by kernel_rfl)) (all_one (by kernel_rfl)) (Nat.le_of_ble_eq_true (by kernel_rfl)) (by kernel_rfl) ?_
  refine L_nil ?_
  change J _ _ _ _
  refine J_seq ?_
  refine J_region ?_
  refine L_v rfl rfl rfl (V_loadT 0 (vs := snX x s1 s2) rfl rfl rfl Try.underlying26 rfl sz26re (by kernel_rfl) (by kernel_rfl)) ?_
  refine L_storeW 1 rfl rfl rfl rfl rfl rfl (szd sz26re (by kernel_rfl)) (all_one (by kernel_rfl)) (by kernel_rfl) ?_
  refine L_nil ?_
  change J _ _ _ _
  refine J_ret ?_
  change Kret _ _ _ Exit.ret _
  refine ret1 rfl rfl (RV_c 1 rfl rfl Try.underlying26 rfl (szd sz26re (by kernel_rfl))) ?_
  exact fun w' h => ⟨s1, s2, rfl, h.fr, NewF.at h 1 rfl n1⟩

theorem ownEntry_w (x : En) (a1 a2 : Sp) (w : World) (f1 : FA w (clA x.2.2.2.2 a1 a2)) (hB : SzC x.2.2.2.2) :
    Calls Try.prog 17 #[.agg (enX x a1 a2).toArray] w fun e w' => ∃ s1 s2 : Sp, e = .returned (.agg (enX x s1 s2).toArray) ∧ Fr [] w w' ∧ NewF w w' (clA x.2.2.2.2 s1 s2) := by
  refine calls_of (args := [.agg (enX x a1 a2).toArray]) ([]) ([]) ([clA x.2.2.2.2 a1 a2]) Try.func17 rfl rfl (okFW (.cons f1 .nil)) ?_
  refine J_seq ?_
  refine J_region ?_
  refine L_box rfl rfl rfl rfl rfl (fun b0 => ?_)
  refine L_alloc rfl rfl rfl rfl z39re (fun b1 => ?_)
  refine L_nil ?_
  change J _ _ _ _
  refine J_seq ?_
  refine J_region ?_
  refine L_v rfl rfl rfl (V_fieldAddr rfl rfl Try.underlying39 rfl sz24re rfl) ?_
  refine L_v rfl rfl rfl (V_loadT 0 (vs := clX x.2.2.2.2 a1 a2) rfl rfl rfl Try.underlying24 rfl sz24re (by kernel_rfl) (by kernel_rfl)) ?_
  refine L_call rfl rfl rfl rfl tx35re (fun w1 hw => (ownCouncil_w x.2.2.2.2 a1 a2 w1 (hw.fa 0 rfl) hB).mono ?_)
  rintro e w' ⟨s1, s2, rfl, hfr, hn1⟩
  have n1 : ∀ k, (_ : Fact).fp k → w.heap.size ≤ k := fun k hk => Nat.le_trans hw.fr.size (hn1.new k hk)
  refine ⟨_, _, _, rfl, hw.newN hfr hn1, rfl, ?_⟩
  refine L_v rfl rfl rfl (V_fieldAddr rfl rfl Try.underlying39 rfl sz24re rfl) ?_
  refine L_storeT 0 (l' := enX x s1 s2) rfl rfl rfl rfl rfl rfl (szd sz24re (by kernel_rfl)) (all_one (by kernel_rfl)) (Nat.le_of_ble_eq_true (by kernel_rfl)) (by kernel_rfl) ?_
  refine L_nil ?_
  change J _ _ _ _
  refine J_seq ?_
  refine J_region ?_
  refine L_v rfl rfl rfl (V_loadT 0 (vs := enX x s1 s2) rfl rfl rfl Try.underlying39 rfl sz39re (by kernel_rfl) (by kernel_rfl)) ?_
  refine L_storeW 1 rfl rfl rfl rfl rfl rfl (szd sz39re (by kernel_rfl)) (all_one (by kernel_rfl)) (by kernel_rfl) ?_
  refine L_nil ?_
  change J _ _ _ _
  refine J_ret ?_
  change Kret _ _ _ Exit.ret _
  refine ret1 rfl rfl (RV_c 1 rfl rfl Try.underlying39 rfl (szd sz39re (by kernel_rfl))) ?_
  exact fun w' h => ⟨s1, s2, rfl, h.fr, NewF.at h 1 rfl n1⟩

set_option maxHeartbeats 4000000 in
theorem rown_w (S : SvS) (s s3 : Sp) (w : World) (f1 : FA w (svF S s s3)) (hz : SzB S) (hE : S.es.length ≤ 549755813888) (hG : S.gl.length ≤ 549755813888) :
    Calls Try.prog 7 #[.agg (svX S s s3).toArray] w fun e w' => ∃ (s1 s2 : Sp) (q1 q3 : OwnP) (gs : List EnV), gs.map Prod.fst = S.es.map Prod.fst ∧ e = .returned (.agg (svR { S with a := s1, b := s2, es := gs } q1 q3).toArray) ∧ Fr [] w w' ∧ PC 43 q1 gs.length (gs.map enW).flatten ∧ PC 97 q3 S.gl.length (kgS S) ∧ NewL w w' (pM 39 q1 (gs.map enW).flatten ++ pM 43 q3 (kgS S)) [clA S.sn.2.2.1 s1 s2, allF (gs.map enA)] := by
  refine calls_of (args := [.agg (svX S s s3).toArray]) ([]) ([]) ([svF S s s3]) Try.func7 rfl rfl (okFW (.cons f1 .nil)) ?_
  refine J_seq ?_
  refine J_region ?_
  refine L_box rfl rfl rfl rfl rfl (fun b0 => ?_)
  refine L_alloc rfl rfl rfl rfl z30re (fun b1 => ?_)
  refine L_nil ?_
  change J _ _ _ _
  refine J_seq ?_
  refine J_regionO (.pure 0 (.pure 1 (.pure 2 (.pure 3 (.pure 4 (.pure 5 (.two 6 (.pure 7 (.one 8 (.one 9 (.nil)))) 8 (.one 6 (.pure 7 (.one 9 (.nil))))))))))) ([(b0, row 30 (svX S s s3))]) _ (Pk.of_sub (List.Sublist.cons_cons _ (List.nil_sublist _))) (fun f hf => hf) rfl rfl (by kernel_rfl) ?_
  refine LO_v rfl rfl rfl rfl (V_fieldAddr rfl rfl Try.underlying30 rfl sz3re rfl) ?_
  refine LO_v rfl rfl rfl rfl (V_load1 0 rfl rfl rfl Try.underlying3 rfl (by rfl)) ?_
  refine LO_v rfl rfl rfl rfl (V_fieldAddr rfl rfl Try.underlying30 rfl sz3re rfl) ?_
  refine LO_v rfl rfl rfl rfl (V_load1 0 rfl rfl rfl Try.underlying3 rfl (by rfl)) ?_
  refine LO_v rfl rfl rfl rfl (V_fieldAddr rfl rfl Try.underlying30 rfl sz26re rfl) ?_
  refine LO_v rfl rfl rfl rfl (V_loadT 0 (vs := snX S.sn S.a S.b) rfl rfl rfl Try.underlying26 rfl sz26re (by kernel_rfl) (by kernel_rfl)) ?_
  refine LO_both ?_ ?_
  ·
    refine LO_s rfl rfl rfl (S_call rfl rfl rfl tx16re (fun w1 hw => (ownSnap_w S.sn S.a S.b w1 (hw.fa 0 rfl).l hz.1).mono ?_))
    rintro e w' ⟨s1, s2, rfl, hfr, hn1⟩
    have n1 : ∀ k, (_ : Fact).fp k → w.heap.size ≤ k := fun k hk => Nat.le_trans hw.fr.size (hn1.new k hk)
    refine ⟨_, _, _, rfl, hw.newN hfr hn1, rfl, (Pk.of_sub (List.Sublist.cons_cons _ (List.nil_sublist _))), (fun f hf => List.mem_append_left _ (hf)), ?_⟩
    refine LO_v rfl rfl rfl rfl (V_buildE (v := .agg (svC S.t S.v S.sn s1 s2 (.slice none 0 0) (.slice none 0 0)).toArray) rfl rfl (fun w => by kernel_rfl)) ?_
    refine LO_s rfl rfl rfl (S_alloc rfl rfl rfl z30re (fun b2 => ⟨(Pk.of_sub (List.Sublist.cons_cons _ (List.nil_sublist _))), (fun f hf => List.mem_append_left _ (hf)), ?_⟩)) 
    refine LO_s rfl rfl rfl (S_storeW 2 rfl rfl rfl rfl rfl (szd sz30re (by kernel_rfl)) (all_one (by kernel_rfl)) (by kernel_rfl) ⟨(Pk.of_sub (List.Sublist.cons_cons _ (List.nil_sublist _))), (fun f hf => List.mem_append_left _ (hf)), ?_⟩)
    refine LO_nil ?_
    change J _ _ _ _
    refine J_seq ?_
    refine J_seq ?_
    refine J_region ?_
    refine L_v rfl rfl rfl (V_assign rfl rfl) ?_
    refine L_nil ?_
    change J _ _ _ _
    refine J_block ?_
    refine J_loop (X := Nat × OwnR × List EnV) (fun x => { env := [(1, .pointer (some ⟨b0, 0, none⟩)), (2, .pointer (some ⟨b1, 0, none⟩)), (3, .pointer (some ⟨b2, 0, none⟩)), (4, .int .i64 (x.1 : Int))], mem := [(b0, row 30 (svX S s s3)), (b1, row 30 [.int .i64 0, .int .i64 0, .int .i64 0, .int .i64 0, .slice none 0 0, .slice none 0 0, .string ByteArray.empty, .slice none 0 0, .slice none 0 0]), (b2, row 30 (svC S.t S.v S.sn s1 s2 (ownV x.2.1 x.1) (.slice none 0 0)))] ++ ownM 39 x.2.1 (x.2.2.map enW).flatten, facts := [svF S s s3, clA S.sn.2.2.1 s1 s2] ++ x.2.2.map enA }) (fun x => x.1 ≤ S.es.length ∧ OwnC 43 x.2.1 x.1 (x.2.2.map enW).flatten ∧ x.2.2.map Prod.fst = (S.es.take x.1).map Prod.fst ∧ ∀ f ∈ x.2.2.map enA, ∀ k, f.fp k → w.heap.size ≤ k) (fun x => S.es.length - x.1) (0, none, []) ⟨Nat.zero_le _, ⟨rfl, rfl⟩, rfl, fun f hf => by cases hf⟩ ⟨⟨rfl, rfl, rfl, rfl, trivial⟩, List.Sublist.refl _, (fun f hf => hf), rfl⟩ ?_
    rintro ⟨i, q, acc⟩ ⟨hin, hq, hac, hfE⟩
    simp only at hin hq hac hfE ⊢
    refine J_seq ?_
    refine J_seq ?_
    refine J_region ?_
    refine L_v rfl rfl rfl (V_move rfl rfl) ?_
    refine L_v rfl rfl rfl (V_fieldAddr rfl rfl Try.underlying30 rfl sz27re rfl) ?_
    refine L_v rfl rfl rfl (V_load1 0 rfl rfl rfl Try.underlying27 rfl (by rfl)) ?_
    refine L_v rfl rfl rfl (V_len rfl rfl Try.underlying27 rfl) ?_
    refine L_v rfl rfl rfl (V_lss rfl rfl rfl (by first | exact decide_eq_true (by omega) | exact decide_eq_false (by omega) | rfl)) ?_
    refine L_nil ?_
    change J _ _ _ _
    refine J_cond rfl (fun h1 => ?_) (fun h1 => ?_)
    ·
      first | (have h1 := of_decide_eq_true h1) | (have h1 := of_decide_eq_false h1) | skip
      have hi : i < S.es.length := by omega
      refine J_skip ?_
      change J _ _ _ _
      refine J_seq ?_
      refine J_block ?_
      refine J_regionO (.pure 0 (.pure 2 (.pure 3 (.pure 4 (.pure 5 (.pure 6 (.two 1 (.one 7 (.one 8 (.one 9 (.pure 10 (.one 11 (.nil)))))) 7 (.two 1 (.one 8 (.one 9 (.pure 10 (.one 11 (.nil))))) 8 (.one 1 (.one 9 (.pure 10 (.one 11 (.nil))))))))))))) ([(b0, row 30 (svX S s s3))]) _ (Pk.of_sub (List.Sublist.cons_cons _ (List.nil_sublist _))) (fun f hf => hf) rfl rfl (by kernel_rfl) ?_
      refine LO_v rfl rfl rfl rfl (V_fieldAddr rfl rfl Try.underlying30 rfl sz27re rfl) ?_
      refine LO_v rfl rfl rfl rfl (V_fieldAddr rfl rfl Try.underlying30 rfl sz27re rfl) ?_
      refine LO_v rfl rfl rfl rfl (V_load1 0 rfl rfl rfl Try.underlying27 rfl (by rfl)) ?_
      refine LO_v rfl rfl rfl rfl (V_move rfl rfl) ?_
      refine LO_v rfl rfl rfl rfl (V_indexC rfl rfl rfl Try.underlying27 sz39re (fun w hw => (hw.fa 0 rfl).r.l.l.1) (by omega) (by omega)) ?_
      refine LO_v rfl rfl rfl rfl (V_loadCN (vs := enX ((S.es.getD i env0).1) ((S.es.getD i env0).2.1) ((S.es.getD i env0).2.2)) rfl rfl Try.underlying39 rfl (szd sz39re (by kernel_rfl)) (fun w hw => (hw.fa 0 rfl).r.l.l.1) (by exact Nat.zero_lt_succ _) (rows_v (f := enW) env0 (sz := 42) (fun _ => rfl) (by omega))) ?_
      refine LO_both ?_ ?_
      ·
        refine LO_s rfl rfl rfl (S_v rfl rfl (V_load1 2 rfl rfl rfl Try.underlying27 rfl rfl) ⟨(Pk.of_sub (List.Sublist.cons_cons _ (List.nil_sublist _))), (fun f hf => hf), ?_⟩) 
        refine LO_s rfl rfl rfl (S_call rfl rfl rfl tx17re (fun w1 hw => (ownEntry_w (S.es.getD i env0).1 _ _ w1 ((hw.fa 0 rfl).r.l.r.of (List.mem_map.2 ⟨_, getD_mem hi, rfl⟩)) (hz.2.1 _ (getD_mem hi))).mono ?_))
        rintro e w' ⟨s4, s5, rfl, hfr, hn3⟩
        have n3 : ∀ k, (_ : Fact).fp k → w.heap.size ≤ k := fun k hk => Nat.le_trans hw.fr.size (hn3.new k hk)
        refine ⟨_, _, _, rfl, hw.newN hfr hn3, rfl, (Pk.of_sub (List.Sublist.cons_cons _ (List.nil_sublist _))), (fun f hf => List.mem_append_left _ (hf)), ?_⟩
        refine LO_s rfl rfl rfl (S_buildSlice (vs := [(0, .agg (enW ((S.es.getD i env0).1, s4, s5)).toArray)]) (l := enW ((S.es.getD i env0).1, s4, s5)) rfl rfl rfl rfl (bsE _ _ _) (fun b9 => ⟨(Pk.of_sub (List.Sublist.cons_cons _ (List.nil_sublist _))), (fun f hf => List.mem_append_left _ (hf)), ?_⟩)) 
        refine LO_s rfl rfl rfl (S_appendN ([(b0, row 30 (svX S s s3)), (b1, row 30 [.int .i64 0, .int .i64 0, .int .i64 0, .int .i64 0, .slice none 0 0, .slice none 0 0, .string ByteArray.empty, .slice none 0 0, .slice none 0 0]), (b2, row 30 (svC S.t S.v S.sn s1 s2 (ownV q i) (.slice none 0 0)))]) [(b9, row 39 (enW ((S.es.getD i env0).1, s4, s5)))] q (acc.map enW).flatten (m := 1) (news := enW ((S.es.getD i env0).1, s4, s5)) rfl rfl rfl rfl Try.underlying27 elE (List.append_assoc _ _ _) hq (fun w1 hw => src_C Try.underlying27 (SlC.in hw (ks := enW ((S.es.getD i env0).1, s4, s5)) (r := []) (fz := (0, 0)) (List.mem_append_right _ (by rw [List.append_nil]; exact List.mem_singleton.2 rfl)) rfl 1) (all_one (by kernel_rfl))) (by omega) (by omega) (fun q4 hq4 => ⟨(Pk.of_sub (List.Sublist.cons_cons _ (List.nil_sublist _))), (fun f hf => List.mem_append_left _ (hf)), ?_⟩)) 
        refine LO_v rfl rfl rfl rfl (V_fieldAddr rfl rfl Try.underlying30 rfl sz27re rfl) ?_
        refine LO_s rfl rfl rfl (S_store1 2 rfl rfl rfl rfl rfl rfl sz27re (Nat.le_of_ble_eq_true (by kernel_rfl)) rfl ⟨(Pk.of_sub (List.Sublist.cons_cons _ (List.nil_sublist _))), (fun f hf => List.mem_append_left _ (hf)), ?_⟩)
        refine LO_nil ?_
        change J _ _ _ _
        refine J_region ?_
        refine L_v rfl rfl rfl (V_move rfl rfl) ?_
        refine L_v rfl rfl rfl (V_add rfl rfl rfl (by first | exact Go.IntWalk.i64_in _ (by omega) | rfl)) ?_
        refine L_v rfl rfl rfl (V_assign rfl rfl) ?_
        refine L_nil ?_
        exact ⟨(i + 1, q4, acc ++ [((S.es.getD i env0).1, s4, s5)]), ⟨by show i + 1 ≤ S.es.length; omega, by show OwnC 43 q4 (i + 1) ((acc ++ [_]).map enW).flatten; rw [← enW_app]; exact hq4, acc_fst hi hac, fun f hf => by
          rw [List.map_append] at hf
          rcases List.mem_append.1 hf with hf | hf
          · exact hfE f hf
          · obtain rfl := List.mem_singleton.1 hf
            exact n3⟩, by show S.es.length - (i + 1) < S.es.length - i; omega, ⟨rfl, rfl, rfl, rfl, trivial⟩, (by rw [← enW_app, ← List.append_assoc]; exact List.sublist_append_left _ _), factsA_app (f0 := [svF S s s3, clA S.sn.2.2.1 s1 s2]), rfl⟩
      ·
        refine LO_s rfl rfl rfl (S_call rfl rfl rfl tx17re (fun w1 hw => (ownEntry_w (S.es.getD i env0).1 _ _ w1 ((hw.fa 0 rfl).r.l.r.of (List.mem_map.2 ⟨_, getD_mem hi, rfl⟩)) (hz.2.1 _ (getD_mem hi))).mono ?_))
        rintro e w' ⟨s4, s5, rfl, hfr, hn3⟩
        have n3 : ∀ k, (_ : Fact).fp k → w.heap.size ≤ k := fun k hk => Nat.le_trans hw.fr.size (hn3.new k hk)
        refine ⟨_, _, _, rfl, hw.newN hfr hn3, rfl, (Pk.of_sub (List.Sublist.cons_cons _ (List.nil_sublist _))), (fun f hf => List.mem_append_left _ (hf)), ?_⟩
        refine LO_both ?_ ?_
        ·
          refine LO_s rfl rfl rfl (S_v rfl rfl (V_load1 2 rfl rfl rfl Try.underlying27 rfl rfl) ⟨(Pk.of_sub (List.Sublist.cons_cons _ (List.nil_sublist _))), (fun f hf => List.mem_append_left _ (hf)), ?_⟩) 
          refine LO_s rfl rfl rfl (S_buildSlice (vs := [(0, .agg (enW ((S.es.getD i env0).1, s4, s5)).toArray)]) (l := enW ((S.es.getD i env0).1, s4, s5)) rfl rfl rfl rfl (bsE _ _ _) (fun b9 => ⟨(Pk.of_sub (List.Sublist.cons_cons _ (List.nil_sublist _))), (fun f hf => List.mem_append_left _ (hf)), ?_⟩)) 
          refine LO_s rfl rfl rfl (S_appendN ([(b0, row 30 (svX S s s3)), (b1, row 30 [.int .i64 0, .int .i64 0, .int .i64 0, .int .i64 0, .slice none 0 0, .slice none 0 0, .string ByteArray.empty, .slice none 0 0, .slice none 0 0]), (b2, row 30 (svC S.t S.v S.sn s1 s2 (ownV q i) (.slice none 0 0)))]) [(b9, row 39 (enW ((S.es.getD i env0).1, s4, s5)))] q (acc.map enW).flatten (m := 1) (news := enW ((S.es.getD i env0).1, s4, s5)) rfl rfl rfl rfl Try.underlying27 elE (List.append_assoc _ _ _) hq (fun w1 hw => src_C Try.underlying27 (SlC.in hw (ks := enW ((S.es.getD i env0).1, s4, s5)) (r := []) (fz := (0, 0)) (List.mem_append_right _ (by rw [List.append_nil]; exact List.mem_singleton.2 rfl)) rfl 1) (all_one (by kernel_rfl))) (by omega) (by omega) (fun q4 hq4 => ⟨(Pk.of_sub (List.Sublist.cons_cons _ (List.nil_sublist _))), (fun f hf => List.mem_append_left _ (hf)), ?_⟩)) 
          refine LO_v rfl rfl rfl rfl (V_fieldAddr rfl rfl Try.underlying30 rfl sz27re rfl) ?_
          refine LO_s rfl rfl rfl (S_store1 2 rfl rfl rfl rfl rfl rfl sz27re (Nat.le_of_ble_eq_true (by kernel_rfl)) rfl ⟨(Pk.of_sub (List.Sublist.cons_cons _ (List.nil_sublist _))), (fun f hf => List.mem_append_left _ (hf)), ?_⟩)
          refine LO_nil ?_
          change J _ _ _ _
          refine J_region ?_
          refine L_v rfl rfl rfl (V_move rfl rfl) ?_
          refine L_v rfl rfl rfl (V_add rfl rfl rfl (by first | exact Go.IntWalk.i64_in _ (by omega) | rfl)) ?_
          refine L_v rfl rfl rfl (V_assign rfl rfl) ?_
          refine L_nil ?_
          exact ⟨(i + 1, q4, acc ++ [((S.es.getD i env0).1, s4, s5)]), ⟨by show i + 1 ≤ S.es.length; omega, by show OwnC 43 q4 (i + 1) ((acc ++ [_]).map enW).flatten; rw [← enW_app]; exact hq4, acc_fst hi hac, fun f hf => by
            rw [List.map_append] at hf
            rcases List.mem_append.1 hf with hf | hf
            · exact hfE f hf
            · obtain rfl := List.mem_singleton.1 hf
              exact n3⟩, by show S.es.length - (i + 1) < S.es.length - i; omega, ⟨rfl, rfl, rfl, rfl, trivial⟩, (by rw [← enW_app, ← List.append_assoc]; exact List.sublist_append_left _ _), factsA_app (f0 := [svF S s s3, clA S.sn.2.2.1 s1 s2]), rfl⟩
        ·
          refine LO_s rfl rfl rfl (S_buildSlice (vs := [(0, .agg (enW ((S.es.getD i env0).1, s4, s5)).toArray)]) (l := enW ((S.es.getD i env0).1, s4, s5)) rfl rfl rfl rfl (bsE _ _ _) (fun b9 => ⟨(Pk.of_sub (List.Sublist.cons_cons _ (List.nil_sublist _))), (fun f hf => List.mem_append_left _ (hf)), ?_⟩)) 
          refine LO_s rfl rfl rfl (S_v rfl rfl (V_load1 2 rfl rfl rfl Try.underlying27 rfl rfl) ⟨(Pk.of_sub (List.Sublist.cons_cons _ (List.nil_sublist _))), (fun f hf => List.mem_append_left _ (hf)), ?_⟩) 
          refine LO_s rfl rfl rfl (S_appendN ([(b0, row 30 (svX S s s3)), (b1, row 30 [.int .i64 0, .int .i64 0, .int .i64 0, .int .i64 0, .slice none 0 0, .slice none 0 0, .string ByteArray.empty, .slice none 0 0, .slice none 0 0]), (b2, row 30 (svC S.t S.v S.sn s1 s2 (ownV q i) (.slice none 0 0)))]) [(b9, row 39 (enW ((S.es.getD i env0).1, s4, s5)))] q (acc.map enW).flatten (m := 1) (news := enW ((S.es.getD i env0).1, s4, s5)) rfl rfl rfl rfl Try.underlying27 elE (List.append_assoc _ _ _) hq (fun w1 hw => src_C Try.underlying27 (SlC.in hw (ks := enW ((S.es.getD i env0).1, s4, s5)) (r := []) (fz := (0, 0)) (List.mem_append_right _ (by rw [List.append_nil]; exact List.mem_singleton.2 rfl)) rfl 1) (all_one (by kernel_rfl))) (by omega) (by omega) (fun q4 hq4 => ⟨(Pk.of_sub (List.Sublist.cons_cons _ (List.nil_sublist _))), (fun f hf => List.mem_append_left _ (hf)), ?_⟩)) 
          refine LO_v rfl rfl rfl rfl (V_fieldAddr rfl rfl Try.underlying30 rfl sz27re rfl) ?_
          refine LO_s rfl rfl rfl (S_store1 2 rfl rfl rfl rfl rfl rfl sz27re (Nat.le_of_ble_eq_true (by kernel_rfl)) rfl ⟨(Pk.of_sub (List.Sublist.cons_cons _ (List.nil_sublist _))), (fun f hf => List.mem_append_left _ (hf)), ?_⟩)
          refine LO_nil ?_
          change J _ _ _ _
          refine J_region ?_
          refine L_v rfl rfl rfl (V_move rfl rfl) ?_
          refine L_v rfl rfl rfl (V_add rfl rfl rfl (by first | exact Go.IntWalk.i64_in _ (by omega) | rfl)) ?_
          refine L_v rfl rfl rfl (V_assign rfl rfl) ?_
          refine L_nil ?_
          exact ⟨(i + 1, q4, acc ++ [((S.es.getD i env0).1, s4, s5)]), ⟨by show i + 1 ≤ S.es.length; omega, by show OwnC 43 q4 (i + 1) ((acc ++ [_]).map enW).flatten; rw [← enW_app]; exact hq4, acc_fst hi hac, fun f hf => by
            rw [List.map_append] at hf
            rcases List.mem_append.1 hf with hf | hf
            · exact hfE f hf
            · obtain rfl := List.mem_singleton.1 hf
              exact n3⟩, by show S.es.length - (i + 1) < S.es.length - i; omega, ⟨rfl, rfl, rfl, rfl, trivial⟩, (by rw [← enW_app, ← List.append_assoc]; exact List.sublist_append_left _ _), factsA_app (f0 := [svF S s s3, clA S.sn.2.2.1 s1 s2]), rfl⟩
    ·
      first | (have h1 := of_decide_eq_true h1) | (have h1 := of_decide_eq_false h1) | skip
      obtain rfl : i = S.es.length := by omega
      refine J_exit ?_
      change J _ _ _ _
      refine J_seq ?_
      refine J_region ?_
      refine L_v rfl rfl rfl (V_fieldAddr rfl rfl Try.underlying30 rfl sz28re rfl) ?_
      refine L_v rfl rfl rfl (V_load1 2 rfl rfl rfl Try.underlying28 rfl (by rfl)) ?_
      refine L_v rfl rfl rfl (V_fieldAddr rfl rfl Try.underlying30 rfl sz28re rfl) ?_
      refine L_v rfl rfl rfl (V_load1 0 rfl rfl rfl Try.underlying28 rfl (by rfl)) ?_
      refine L_appL ([(b0, row 30 (svX S s s3)), (b1, row 30 [.int .i64 0, .int .i64 0, .int .i64 0, .int .i64 0, .slice none 0 0, .slice none 0 0, .string ByteArray.empty, .slice none 0 0, .slice none 0 0]), (b2, row 30 (svC S.t S.v S.sn s1 s2 (ownV q S.es.length) (.slice none 0 0)))] ++ ownM 39 q (acc.map enW).flatten) none [] (m := S.gl.length) (n' := S.gl.length) (news := (kgS S)) (ks' := (kgS S)) rfl rfl rfl rfl rfl Try.underlying28 elG (List.append_nil _).symm ⟨rfl, rfl⟩ (fun w1 hw => src_C Try.underlying28 (hw.fa 0 rfl).r.r.1 (one_map (fun _ => by kernel_rfl) S.gl)) (Nat.zero_add _) (List.nil_append _) (by omega) (by omega) (fun q2 hq2 => ?_)
      refine L_v rfl rfl rfl (V_fieldAddr rfl rfl Try.underlying30 rfl sz28re rfl) ?_
      refine L_store1 2 rfl rfl rfl rfl rfl rfl rfl sz28re (Nat.le_of_ble_eq_true (by kernel_rfl)) rfl ?_
      refine L_nil ?_
      change J _ _ _ _
      refine J_seq ?_
      refine J_region ?_
      refine L_v rfl rfl rfl (V_loadT 2 (vs := svC S.t S.v S.sn s1 s2 (ownV q S.es.length) (ownV q2 S.gl.length)) rfl rfl rfl Try.underlying30 rfl sz30re (by kernel_rfl) (by kernel_rfl)) ?_
      refine L_storeW 1 rfl rfl rfl rfl rfl rfl (szd sz30re (by kernel_rfl)) (all_one (by kernel_rfl)) (by kernel_rfl) ?_
      refine L_nil ?_
      change J _ _ _ _
      refine J_ret ?_
      change Kret _ _ _ Exit.ret _
      refine ret1 rfl rfl (RV_c 1 rfl rfl Try.underlying30 rfl (szd sz30re (by kernel_rfl))) ?_
      rw [List.take_length] at hac
      have hal : acc.length = S.es.length := by simpa using congrArg List.length hac
      refine fun w' h => ⟨s1, s2, ofR q, ofR q2, acc, hac, ?_, h.fr, ofR_C (hal ▸ hq), ofR_C hq2, ?_⟩
      · show _ = Ending.returned (.agg (svC S.t S.v S.sn s1 s2 (pV (ofR q) acc.length) (pV (ofR q2) S.gl.length)).toArray)
        rw [ofR_V, ofR_V, hal]
      · rw [ofR_M, ofR_M]
        have h' : OkW _ (([(b0, row 30 (svX S s s3)), (b1, row 30 (svC S.t S.v S.sn s1 s2 (ownV q S.es.length) (ownV q2 S.gl.length))), (b2, row 30 (svC S.t S.v S.sn s1 s2 (ownV q S.es.length) (ownV q2 S.gl.length)))] ++ ownM 39 q (acc.map enW).flatten) ++ ownM 43 q2 (kgS S)) _ w' := h
        have h2 := h'.deriv (f := allF (acc.map enA)) (fun f hf => (h'.facts f (List.mem_append_right _ hf)).1) (fun k ⟨f, hf, hk⟩ => ⟨f, List.mem_append_right _ hf, hk⟩)
        refine NewL.of h2 rfl (by rw [List.append_assoc]; exact List.sublist_append_right _ _) (fun f hf => ?_) (fun f hf k hk => ?_)
        · rcases List.mem_cons.1 hf with rfl | hf
          · exact List.mem_append_left _ (List.mem_append_left _ (List.mem_cons_of_mem _ (List.mem_cons_self ..)))
          · exact List.mem_append_right _ hf
        · rcases List.mem_cons.1 hf with rfl | hf
          · exact n1 k hk
          · obtain rfl := List.mem_singleton.1 hf
            obtain ⟨f, hf, hk⟩ := hk
            exact hfE f hf k hk
  ·
    refine LO_s rfl rfl rfl (S_alloc rfl rfl rfl z30re (fun b2 => ⟨(Pk.of_sub (List.Sublist.cons_cons _ (List.nil_sublist _))), (fun f hf => hf), ?_⟩)) 
    refine LO_s rfl rfl rfl (S_call rfl rfl rfl tx16re (fun w1 hw => (ownSnap_w S.sn S.a S.b w1 (hw.fa 0 rfl).l hz.1).mono ?_))
    rintro e w' ⟨s1, s2, rfl, hfr, hn1⟩
    have n1 : ∀ k, (_ : Fact).fp k → w.heap.size ≤ k := fun k hk => Nat.le_trans hw.fr.size (hn1.new k hk)
    refine ⟨_, _, _, rfl, hw.newN hfr hn1, rfl, (Pk.of_sub (List.Sublist.cons_cons _ (List.nil_sublist _))), (fun f hf => List.mem_append_left _ (hf)), ?_⟩
    refine LO_v rfl rfl rfl rfl (V_buildE (v := .agg (svC S.t S.v S.sn s1 s2 (.slice none 0 0) (.slice none 0 0)).toArray) rfl rfl (fun w => by kernel_rfl)) ?_
    refine LO_s rfl rfl rfl (S_storeW 2 rfl rfl rfl rfl rfl (szd sz30re (by kernel_rfl)) (all_one (by kernel_rfl)) (by kernel_rfl) ⟨(Pk.of_sub (List.Sublist.cons_cons _ (List.nil_sublist _))), (fun f hf => List.mem_append_left _ (hf)), ?_⟩)
    refine LO_nil ?_
    change J _ _ _ _
    refine J_seq ?_
    refine J_seq ?_
    refine J_region ?_
    refine L_v rfl rfl rfl (V_assign rfl rfl) ?_
    refine L_nil ?_
    change J _ _ _ _
    refine J_block ?_
    refine J_loop (X := Nat × OwnR × List EnV) (fun x => { env := [(1, .pointer (some ⟨b0, 0, none⟩)), (2, .pointer (some ⟨b1, 0, none⟩)), (3, .pointer (some ⟨b2, 0, none⟩)), (4, .int .i64 (x.1 : Int))], mem := [(b0, row 30 (svX S s s3)), (b1, row 30 [.int .i64 0, .int .i64 0, .int .i64 0, .int .i64 0, .slice none 0 0, .slice none 0 0, .string ByteArray.empty, .slice none 0 0, .slice none 0 0]), (b2, row 30 (svC S.t S.v S.sn s1 s2 (ownV x.2.1 x.1) (.slice none 0 0)))] ++ ownM 39 x.2.1 (x.2.2.map enW).flatten, facts := [svF S s s3, clA S.sn.2.2.1 s1 s2] ++ x.2.2.map enA }) (fun x => x.1 ≤ S.es.length ∧ OwnC 43 x.2.1 x.1 (x.2.2.map enW).flatten ∧ x.2.2.map Prod.fst = (S.es.take x.1).map Prod.fst ∧ ∀ f ∈ x.2.2.map enA, ∀ k, f.fp k → w.heap.size ≤ k) (fun x => S.es.length - x.1) (0, none, []) ⟨Nat.zero_le _, ⟨rfl, rfl⟩, rfl, fun f hf => by cases hf⟩ ⟨⟨rfl, rfl, rfl, rfl, trivial⟩, List.Sublist.refl _, (fun f hf => hf), rfl⟩ ?_
    rintro ⟨i, q, acc⟩ ⟨hin, hq, hac, hfE⟩
    simp only at hin hq hac hfE ⊢
    refine J_seq ?_
    refine J_seq ?_
    refine J_region ?_
    refine L_v rfl rfl rfl (V_move rfl rfl) ?_
    refine L_v rfl rfl rfl (V_fieldAddr rfl rfl Try.underlying30 rfl sz27re rfl) ?_
    refine L_v rfl rfl rfl (V_load1 0 rfl rfl rfl Try.underlying27 rfl (by rfl)) ?_
    refine L_v rfl rfl rfl (V_len rfl rfl Try.underlying27 rfl) ?_
    refine L_v rfl rfl rfl (V_lss rfl rfl rfl (by first | exact decide_eq_true (by omega) | exact decide_eq_false (by omega) | rfl)) ?_
    refine L_nil ?_
    change J _ _ _ _
    refine J_cond rfl (fun h1 => ?_) (fun h1 => ?_)
    ·
      first | (have h1 := of_decide_eq_true h1) | (have h1 := of_decide_eq_false h1) | skip
      have hi : i < S.es.length := by omega
      refine J_skip ?_
      change J _ _ _ _
      refine J_seq ?_
      refine J_block ?_
      refine J_regionO (.pure 0 (.pure 2 (.pure 3 (.pure 4 (.pure 5 (.pure 6 (.two 1 (.one 7 (.one 8 (.one 9 (.pure 10 (.one 11 (.nil)))))) 7 (.two 1 (.one 8 (.one 9 (.pure 10 (.one 11 (.nil))))) 8 (.one 1 (.one 9 (.pure 10 (.one 11 (.nil))))))))))))) ([(b0, row 30 (svX S s s3))]) _ (Pk.of_sub (List.Sublist.cons_cons _ (List.nil_sublist _))) (fun f hf => hf) rfl rfl (by kernel_rfl) ?_
      refine LO_v rfl rfl rfl rfl (V_fieldAddr rfl rfl Try.underlying30 rfl sz27re rfl) ?_
      refine LO_v rfl rfl rfl rfl (V_fieldAddr rfl rfl Try.underlying30 rfl sz27re rfl) ?_
      refine LO_v rfl rfl rfl rfl (V_load1 0 rfl rfl rfl Try.underlying27 rfl (by rfl)) ?_
      refine LO_v rfl rfl rfl rfl (V_move rfl rfl) ?_
      refine LO_v rfl rfl rfl rfl (V_indexC rfl rfl rfl Try.underlying27 sz39re (fun w hw => (hw.fa 0 rfl).r.l.l.1) (by omega) (by omega)) ?_
      refine LO_v rfl rfl rfl rfl (V_loadCN (vs := enX ((S.es.getD i env0).1) ((S.es.getD i env0).2.1) ((S.es.getD i env0).2.2)) rfl rfl Try.underlying39 rfl (szd sz39re (by kernel_rfl)) (fun w hw => (hw.fa 0 rfl).r.l.l.1) (by exact Nat.zero_lt_succ _) (rows_v (f := enW) env0 (sz := 42) (fun _ => rfl) (by omega))) ?_
      refine LO_both ?_ ?_
      ·
        refine LO_s rfl rfl rfl (S_v rfl rfl (V_load1 2 rfl rfl rfl Try.underlying27 rfl rfl) ⟨(Pk.of_sub (List.Sublist.cons_cons _ (List.nil_sublist _))), (fun f hf => hf), ?_⟩) 
        refine LO_s rfl rfl rfl (S_call rfl rfl rfl tx17re (fun w1 hw => (ownEntry_w (S.es.getD i env0).1 _ _ w1 ((hw.fa 0 rfl).r.l.r.of (List.mem_map.2 ⟨_, getD_mem hi, rfl⟩)) (hz.2.1 _ (getD_mem hi))).mono ?_))
        rintro e w' ⟨s4, s5, rfl, hfr, hn3⟩
        have n3 : ∀ k, (_ : Fact).fp k → w.heap.size ≤ k := fun k hk => Nat.le_trans hw.fr.size (hn3.new k hk)
        refine ⟨_, _, _, rfl, hw.newN hfr hn3, rfl, (Pk.of_sub (List.Sublist.cons_cons _ (List.nil_sublist _))), (fun f hf => List.mem_append_left _ (hf)), ?_⟩
        refine LO_s rfl rfl rfl (S_buildSlice (vs := [(0, .agg (enW ((S.es.getD i env0).1, s4, s5)).toArray)]) (l := enW ((S.es.getD i env0).1, s4, s5)) rfl rfl rfl rfl (bsE _ _ _) (fun b9 => ⟨(Pk.of_sub (List.Sublist.cons_cons _ (List.nil_sublist _))), (fun f hf => List.mem_append_left _ (hf)), ?_⟩)) 
        refine LO_s rfl rfl rfl (S_appendN ([(b0, row 30 (svX S s s3)), (b1, row 30 [.int .i64 0, .int .i64 0, .int .i64 0, .int .i64 0, .slice none 0 0, .slice none 0 0, .string ByteArray.empty, .slice none 0 0, .slice none 0 0]), (b2, row 30 (svC S.t S.v S.sn s1 s2 (ownV q i) (.slice none 0 0)))]) [(b9, row 39 (enW ((S.es.getD i env0).1, s4, s5)))] q (acc.map enW).flatten (m := 1) (news := enW ((S.es.getD i env0).1, s4, s5)) rfl rfl rfl rfl Try.underlying27 elE (List.append_assoc _ _ _) hq (fun w1 hw => src_C Try.underlying27 (SlC.in hw (ks := enW ((S.es.getD i env0).1, s4, s5)) (r := []) (fz := (0, 0)) (List.mem_append_right _ (by rw [List.append_nil]; exact List.mem_singleton.2 rfl)) rfl 1) (all_one (by kernel_rfl))) (by omega) (by omega) (fun q4 hq4 => ⟨(Pk.of_sub (List.Sublist.cons_cons _ (List.nil_sublist _))), (fun f hf => List.mem_append_left _ (hf)), ?_⟩)) 
        refine LO_v rfl rfl rfl rfl (V_fieldAddr rfl rfl Try.underlying30 rfl sz27re rfl) ?_
        refine LO_s rfl rfl rfl (S_store1 2 rfl rfl rfl rfl rfl rfl sz27re (Nat.le_of_ble_eq_true (by kernel_rfl)) rfl ⟨(Pk.of_sub (List.Sublist.cons_cons _ (List.nil_sublist _))), (fun f hf => List.mem_append_left _ (hf)), ?_⟩)
        refine LO_nil ?_
        change J _ _ _ _
        refine J_region ?_
        refine L_v rfl rfl rfl (V_move rfl rfl) ?_
        refine L_v rfl rfl rfl (V_add rfl rfl rfl (by first | exact Go.IntWalk.i64_in _ (by omega) | rfl)) ?_
        refine L_v rfl rfl rfl (V_assign rfl rfl) ?_
        refine L_nil ?_
        exact ⟨(i + 1, q4, acc ++ [((S.es.getD i env0).1, s4, s5)]), ⟨by show i + 1 ≤ S.es.length; omega, by show OwnC 43 q4 (i + 1) ((acc ++ [_]).map enW).flatten; rw [← enW_app]; exact hq4, acc_fst hi hac, fun f hf => by
          rw [List.map_append] at hf
          rcases List.mem_append.1 hf with hf | hf
          · exact hfE f hf
          · obtain rfl := List.mem_singleton.1 hf
            exact n3⟩, by show S.es.length - (i + 1) < S.es.length - i; omega, ⟨rfl, rfl, rfl, rfl, trivial⟩, (by rw [← enW_app, ← List.append_assoc]; exact List.sublist_append_left _ _), factsA_app (f0 := [svF S s s3, clA S.sn.2.2.1 s1 s2]), rfl⟩
      ·
        refine LO_s rfl rfl rfl (S_call rfl rfl rfl tx17re (fun w1 hw => (ownEntry_w (S.es.getD i env0).1 _ _ w1 ((hw.fa 0 rfl).r.l.r.of (List.mem_map.2 ⟨_, getD_mem hi, rfl⟩)) (hz.2.1 _ (getD_mem hi))).mono ?_))
        rintro e w' ⟨s4, s5, rfl, hfr, hn3⟩
        have n3 : ∀ k, (_ : Fact).fp k → w.heap.size ≤ k := fun k hk => Nat.le_trans hw.fr.size (hn3.new k hk)
        refine ⟨_, _, _, rfl, hw.newN hfr hn3, rfl, (Pk.of_sub (List.Sublist.cons_cons _ (List.nil_sublist _))), (fun f hf => List.mem_append_left _ (hf)), ?_⟩
        refine LO_both ?_ ?_
        ·
          refine LO_s rfl rfl rfl (S_v rfl rfl (V_load1 2 rfl rfl rfl Try.underlying27 rfl rfl) ⟨(Pk.of_sub (List.Sublist.cons_cons _ (List.nil_sublist _))), (fun f hf => List.mem_append_left _ (hf)), ?_⟩) 
          refine LO_s rfl rfl rfl (S_buildSlice (vs := [(0, .agg (enW ((S.es.getD i env0).1, s4, s5)).toArray)]) (l := enW ((S.es.getD i env0).1, s4, s5)) rfl rfl rfl rfl (bsE _ _ _) (fun b9 => ⟨(Pk.of_sub (List.Sublist.cons_cons _ (List.nil_sublist _))), (fun f hf => List.mem_append_left _ (hf)), ?_⟩)) 
          refine LO_s rfl rfl rfl (S_appendN ([(b0, row 30 (svX S s s3)), (b1, row 30 [.int .i64 0, .int .i64 0, .int .i64 0, .int .i64 0, .slice none 0 0, .slice none 0 0, .string ByteArray.empty, .slice none 0 0, .slice none 0 0]), (b2, row 30 (svC S.t S.v S.sn s1 s2 (ownV q i) (.slice none 0 0)))]) [(b9, row 39 (enW ((S.es.getD i env0).1, s4, s5)))] q (acc.map enW).flatten (m := 1) (news := enW ((S.es.getD i env0).1, s4, s5)) rfl rfl rfl rfl Try.underlying27 elE (List.append_assoc _ _ _) hq (fun w1 hw => src_C Try.underlying27 (SlC.in hw (ks := enW ((S.es.getD i env0).1, s4, s5)) (r := []) (fz := (0, 0)) (List.mem_append_right _ (by rw [List.append_nil]; exact List.mem_singleton.2 rfl)) rfl 1) (all_one (by kernel_rfl))) (by omega) (by omega) (fun q4 hq4 => ⟨(Pk.of_sub (List.Sublist.cons_cons _ (List.nil_sublist _))), (fun f hf => List.mem_append_left _ (hf)), ?_⟩)) 
          refine LO_v rfl rfl rfl rfl (V_fieldAddr rfl rfl Try.underlying30 rfl sz27re rfl) ?_
          refine LO_s rfl rfl rfl (S_store1 2 rfl rfl rfl rfl rfl rfl sz27re (Nat.le_of_ble_eq_true (by kernel_rfl)) rfl ⟨(Pk.of_sub (List.Sublist.cons_cons _ (List.nil_sublist _))), (fun f hf => List.mem_append_left _ (hf)), ?_⟩)
          refine LO_nil ?_
          change J _ _ _ _
          refine J_region ?_
          refine L_v rfl rfl rfl (V_move rfl rfl) ?_
          refine L_v rfl rfl rfl (V_add rfl rfl rfl (by first | exact Go.IntWalk.i64_in _ (by omega) | rfl)) ?_
          refine L_v rfl rfl rfl (V_assign rfl rfl) ?_
          refine L_nil ?_
          exact ⟨(i + 1, q4, acc ++ [((S.es.getD i env0).1, s4, s5)]), ⟨by show i + 1 ≤ S.es.length; omega, by show OwnC 43 q4 (i + 1) ((acc ++ [_]).map enW).flatten; rw [← enW_app]; exact hq4, acc_fst hi hac, fun f hf => by
            rw [List.map_append] at hf
            rcases List.mem_append.1 hf with hf | hf
            · exact hfE f hf
            · obtain rfl := List.mem_singleton.1 hf
              exact n3⟩, by show S.es.length - (i + 1) < S.es.length - i; omega, ⟨rfl, rfl, rfl, rfl, trivial⟩, (by rw [← enW_app, ← List.append_assoc]; exact List.sublist_append_left _ _), factsA_app (f0 := [svF S s s3, clA S.sn.2.2.1 s1 s2]), rfl⟩
        ·
          refine LO_s rfl rfl rfl (S_buildSlice (vs := [(0, .agg (enW ((S.es.getD i env0).1, s4, s5)).toArray)]) (l := enW ((S.es.getD i env0).1, s4, s5)) rfl rfl rfl rfl (bsE _ _ _) (fun b9 => ⟨(Pk.of_sub (List.Sublist.cons_cons _ (List.nil_sublist _))), (fun f hf => List.mem_append_left _ (hf)), ?_⟩)) 
          refine LO_s rfl rfl rfl (S_v rfl rfl (V_load1 2 rfl rfl rfl Try.underlying27 rfl rfl) ⟨(Pk.of_sub (List.Sublist.cons_cons _ (List.nil_sublist _))), (fun f hf => List.mem_append_left _ (hf)), ?_⟩) 
          refine LO_s rfl rfl rfl (S_appendN ([(b0, row 30 (svX S s s3)), (b1, row 30 [.int .i64 0, .int .i64 0, .int .i64 0, .int .i64 0, .slice none 0 0, .slice none 0 0, .string ByteArray.empty, .slice none 0 0, .slice none 0 0]), (b2, row 30 (svC S.t S.v S.sn s1 s2 (ownV q i) (.slice none 0 0)))]) [(b9, row 39 (enW ((S.es.getD i env0).1, s4, s5)))] q (acc.map enW).flatten (m := 1) (news := enW ((S.es.getD i env0).1, s4, s5)) rfl rfl rfl rfl Try.underlying27 elE (List.append_assoc _ _ _) hq (fun w1 hw => src_C Try.underlying27 (SlC.in hw (ks := enW ((S.es.getD i env0).1, s4, s5)) (r := []) (fz := (0, 0)) (List.mem_append_right _ (by rw [List.append_nil]; exact List.mem_singleton.2 rfl)) rfl 1) (all_one (by kernel_rfl))) (by omega) (by omega) (fun q4 hq4 => ⟨(Pk.of_sub (List.Sublist.cons_cons _ (List.nil_sublist _))), (fun f hf => List.mem_append_left _ (hf)), ?_⟩)) 
          refine LO_v rfl rfl rfl rfl (V_fieldAddr rfl rfl Try.underlying30 rfl sz27re rfl) ?_
          refine LO_s rfl rfl rfl (S_store1 2 rfl rfl rfl rfl rfl rfl sz27re (Nat.le_of_ble_eq_true (by kernel_rfl)) rfl ⟨(Pk.of_sub (List.Sublist.cons_cons _ (List.nil_sublist _))), (fun f hf => List.mem_append_left _ (hf)), ?_⟩)
          refine LO_nil ?_
          change J _ _ _ _
          refine J_region ?_
          refine L_v rfl rfl rfl (V_move rfl rfl) ?_
          refine L_v rfl rfl rfl (V_add rfl rfl rfl (by first | exact Go.IntWalk.i64_in _ (by omega) | rfl)) ?_
          refine L_v rfl rfl rfl (V_assign rfl rfl) ?_
          refine L_nil ?_
          exact ⟨(i + 1, q4, acc ++ [((S.es.getD i env0).1, s4, s5)]), ⟨by show i + 1 ≤ S.es.length; omega, by show OwnC 43 q4 (i + 1) ((acc ++ [_]).map enW).flatten; rw [← enW_app]; exact hq4, acc_fst hi hac, fun f hf => by
            rw [List.map_append] at hf
            rcases List.mem_append.1 hf with hf | hf
            · exact hfE f hf
            · obtain rfl := List.mem_singleton.1 hf
              exact n3⟩, by show S.es.length - (i + 1) < S.es.length - i; omega, ⟨rfl, rfl, rfl, rfl, trivial⟩, (by rw [← enW_app, ← List.append_assoc]; exact List.sublist_append_left _ _), factsA_app (f0 := [svF S s s3, clA S.sn.2.2.1 s1 s2]), rfl⟩
    ·
      first | (have h1 := of_decide_eq_true h1) | (have h1 := of_decide_eq_false h1) | skip
      obtain rfl : i = S.es.length := by omega
      refine J_exit ?_
      change J _ _ _ _
      refine J_seq ?_
      refine J_region ?_
      refine L_v rfl rfl rfl (V_fieldAddr rfl rfl Try.underlying30 rfl sz28re rfl) ?_
      refine L_v rfl rfl rfl (V_load1 2 rfl rfl rfl Try.underlying28 rfl (by rfl)) ?_
      refine L_v rfl rfl rfl (V_fieldAddr rfl rfl Try.underlying30 rfl sz28re rfl) ?_
      refine L_v rfl rfl rfl (V_load1 0 rfl rfl rfl Try.underlying28 rfl (by rfl)) ?_
      refine L_appL ([(b0, row 30 (svX S s s3)), (b1, row 30 [.int .i64 0, .int .i64 0, .int .i64 0, .int .i64 0, .slice none 0 0, .slice none 0 0, .string ByteArray.empty, .slice none 0 0, .slice none 0 0]), (b2, row 30 (svC S.t S.v S.sn s1 s2 (ownV q S.es.length) (.slice none 0 0)))] ++ ownM 39 q (acc.map enW).flatten) none [] (m := S.gl.length) (n' := S.gl.length) (news := (kgS S)) (ks' := (kgS S)) rfl rfl rfl rfl rfl Try.underlying28 elG (List.append_nil _).symm ⟨rfl, rfl⟩ (fun w1 hw => src_C Try.underlying28 (hw.fa 0 rfl).r.r.1 (one_map (fun _ => by kernel_rfl) S.gl)) (Nat.zero_add _) (List.nil_append _) (by omega) (by omega) (fun q2 hq2 => ?_)
      refine L_v rfl rfl rfl (V_fieldAddr rfl rfl Try.underlying30 rfl sz28re rfl) ?_
      refine L_store1 2 rfl rfl rfl rfl rfl rfl rfl sz28re (Nat.le_of_ble_eq_true (by kernel_rfl)) rfl ?_
      refine L_nil ?_
      change J _ _ _ _
      refine J_seq ?_
      refine J_region ?_
      refine L_v rfl rfl rfl (V_loadT 2 (vs := svC S.t S.v S.sn s1 s2 (ownV q S.es.length) (ownV q2 S.gl.length)) rfl rfl rfl Try.underlying30 rfl sz30re (by kernel_rfl) (by kernel_rfl)) ?_
      refine L_storeW 1 rfl rfl rfl rfl rfl rfl (szd sz30re (by kernel_rfl)) (all_one (by kernel_rfl)) (by kernel_rfl) ?_
      refine L_nil ?_
      change J _ _ _ _
      refine J_ret ?_
      change Kret _ _ _ Exit.ret _
      refine ret1 rfl rfl (RV_c 1 rfl rfl Try.underlying30 rfl (szd sz30re (by kernel_rfl))) ?_
      rw [List.take_length] at hac
      have hal : acc.length = S.es.length := by simpa using congrArg List.length hac
      refine fun w' h => ⟨s1, s2, ofR q, ofR q2, acc, hac, ?_, h.fr, ofR_C (hal ▸ hq), ofR_C hq2, ?_⟩
      · show _ = Ending.returned (.agg (svC S.t S.v S.sn s1 s2 (pV (ofR q) acc.length) (pV (ofR q2) S.gl.length)).toArray)
        rw [ofR_V, ofR_V, hal]
      · rw [ofR_M, ofR_M]
        have h' : OkW _ (([(b0, row 30 (svX S s s3)), (b1, row 30 (svC S.t S.v S.sn s1 s2 (ownV q S.es.length) (ownV q2 S.gl.length))), (b2, row 30 (svC S.t S.v S.sn s1 s2 (ownV q S.es.length) (ownV q2 S.gl.length)))] ++ ownM 39 q (acc.map enW).flatten) ++ ownM 43 q2 (kgS S)) _ w' := h
        have h2 := h'.deriv (f := allF (acc.map enA)) (fun f hf => (h'.facts f (List.mem_append_right _ hf)).1) (fun k ⟨f, hf, hk⟩ => ⟨f, List.mem_append_right _ hf, hk⟩)
        refine NewL.of h2 rfl (by rw [List.append_assoc]; exact List.sublist_append_right _ _) (fun f hf => ?_) (fun f hf k hk => ?_)
        · rcases List.mem_cons.1 hf with rfl | hf
          · exact List.mem_append_left _ (List.mem_append_left _ (List.mem_cons_of_mem _ (List.mem_cons_self ..)))
          · exact List.mem_append_right _ hf
        · rcases List.mem_cons.1 hf with rfl | hf
          · exact n1 k hk
          · obtain rfl := List.mem_singleton.1 hf
            obtain ⟨f, hf, hk⟩ := hk
            exact hfE f hf k hk

end Go.Proofs.Ytcdenfkbhefbbaa
