/- What the functions of layer 7 that look at lists come to. -/
import Derived.Test.YthafhiemecfjiaaDoorVersion
import Derived.Test.YthafhiemecfjiaaDoorSx2
set_option linter.unusedVariables false
set_option linter.unusedSimpArgs false
set_option maxRecDepth 100000
namespace Go.Proofs.YthafhiemecfjiaaDoor
open Go.Sx
theorem egV : Tryd.prog.eqGuardType Tryd.prog.depth 44 = false := by kernel_rfl
theorem eqV (x y : Ver) (w : World) : (Op.equal 44 (.agg (vc x).toArray) (.agg (vc y).toArray)).run Tryd.prog w = .ok (decide (x = y)) w := by
  show (Op.equalIn (9999 + 1) _ _ _).run _ w = _
  rw [run_eqStruct w 9999 _ _ (by kernel_rfl) (by kernel_rfl) (spec := [(true, 3, 0), (true, 42, 1), (true, 9, 2)]) (by kernel_rfl)]
  rw [eqF_one (run_part1 (cs := vc x) (v := .int .i64 x.1) Tryd.underlying3 rfl rfl) (run_part1 (cs := vc y) (v := .int .i64 y.1) Tryd.underlying3 rfl rfl) (run_equalIn_int w 9998 _ _ _ x.1 y.1 Tryd.underlying3)]
  rw [eqF_one (run_part1 (cs := vc x) (v := .int .i64 x.2.1) Tryd.underlying42 rfl rfl) (run_part1 (cs := vc y) (v := .int .i64 y.2.1) Tryd.underlying42 rfl rfl) (run_equalIn_int w 9998 _ _ _ x.2.1 y.2.1 Tryd.underlying42)]
  rw [eqF_one (run_part1 (cs := vc x) (v := .string x.2.2) Tryd.underlying9 rfl rfl) (run_part1 (cs := vc y) (v := .string y.2.2) Tryd.underlying9 rfl rfl) (by rw [run_equalIn_string w 9998 _ x.2.2 y.2.2 Tryd.underlying9, str_eq])]
  obtain ⟨x1, x2, x3⟩ := x
  obtain ⟨y1, y2, y3⟩ := y
  by_cases h1 : x1 = y1 <;> by_cases h2 : x2 = y2 <;> by_cases h3 : x3 = y3 <;> simp [h1, h2, h3, eqF]
theorem bsV (v : Ver) (w : World) : (Instr.buildSlice 22 1 [(0, .agg (vc v).toArray)].toArray).run Tryd.prog w = .ok (.slice (some ⟨w.heap.size, 0, none⟩) 1 1) (w.alloc (row 44 (vc v))) := by kernel_rfl
theorem bs0 (w : World) : (Instr.buildSlice 22 0 ([] : List (Nat × Value)).toArray).run Tryd.prog w = .ok (.slice (some ⟨w.heap.size, 0, none⟩) 0 0) (w.alloc (row 44 [])) := by kernel_rfl
theorem sz3w : (Tryd.prog.info? 3).map (·.size) = some 1 := by kernel_rfl
theorem sz42w : (Tryd.prog.info? 42).map (·.size) = some 1 := by kernel_rfl
theorem sz44w : (Tryd.prog.info? 44).map (·.size) = some 3 := by kernel_rfl
theorem tx24w : Txt Tryd.prog 24 := txt_of Tryd.func24 rfl (by kernel_rfl)
theorem tx25w : Txt Tryd.prog 25 := txt_of Tryd.func25 rfl (by kernel_rfl)
theorem tx26w : Txt Tryd.prog 26 := txt_of Tryd.func26 rfl (by kernel_rfl)
theorem tx28w : Txt Tryd.prog 28 := txt_of Tryd.func28 rfl (by kernel_rfl)
theorem tx29w : Txt Tryd.prog 29 := txt_of Tryd.func29 rfl (by kernel_rfl)
theorem z44w : (Tryd.prog.info? 44).bind (·.zero) = some (.agg (vc v0).toArray) := by kernel_rfl

theorem check_w (a : Option Addr) (n c : Nat) (l : List Ver) (w : World) (hl : l.length = n) (hu : SlC 3 w (.slice a n c) n (vcs l)) (hn : n ≤ 1048576) (hcn : n ≤ c) :
    Calls Tryd.prog 11 #[.slice a n c] w fun e w' => e = .returned (.int .i64 (if isH l = true then 0 else 50)) ∧ Fr [] w w' := by
  refine calls_of (args := [.slice a n c]) ([]) ([]) ([]) Tryd.func11 rfl rfl (okW0 _ _ _ _) ?_
  refine J_seq ?_
  refine J_region ?_
  refine L_v rfl rfl rfl (V_assign rfl rfl) ?_
  refine L_nil ?_
  change J _ _ _ _
  refine J_seq ?_
  refine J_region ?_
  refine L_v rfl rfl rfl (V_move rfl rfl) ?_
  refine L_v rfl rfl rfl (V_len rfl rfl Tryd.underlying22 rfl) ?_
  refine L_v rfl rfl rfl (V_leq rfl rfl rfl (by first | exact decide_eq_true (by omega) | exact decide_eq_false (by omega) | rfl)) ?_
  refine L_v rfl rfl rfl (V_assign rfl rfl) ?_
  refine L_nil ?_
  change J _ _ _ _
  refine J_seq ?_
  refine J_seq ?_
  refine J_region ?_
  refine L_v rfl rfl rfl (V_assign rfl rfl) ?_
  refine L_nil ?_
  change J _ _ _ _
  refine J_block ?_
  refine J_loop (X := Nat × Bool) (fun q => { env := [(0, .slice a n c), (3, .bool q.2), (4, .int .i64 (q.1 : Int))] }) (fun q => q.1 ≤ n ∧ q.2 = (decide ((n : Int) ≤ 16) && fromV v0 (l.take q.1))) (fun q => n - q.1) (0, decide ((n : Int) ≤ 16)) ⟨Nat.zero_le _, by simp [fromV]⟩ ⟨⟨rfl, rfl, rfl, trivial⟩, List.Sublist.refl _, fun f hf => hf, rfl⟩ ?_
  rintro ⟨i, ok⟩ ⟨hi, hok⟩
  simp only at hi hok ⊢
  refine J_seq ?_
  refine J_seq ?_
  refine J_region ?_
  refine L_v rfl rfl rfl (V_move rfl rfl) ?_
  refine L_v rfl rfl rfl (V_move rfl rfl) ?_
  refine L_split 10 rfl (fun h1 => ?_) (fun h1 => ?_)
  ·
    first | (have h1 := h1; rw [decide_eq_true_eq] at h1) | (have h1 := h1; rw [decide_eq_false_iff_not] at h1) | skip
    subst h1
    refine L_wv rfl rfl rfl rfl rfl rfl (V_move rfl rfl) ?_
    refine L_wv rfl rfl rfl rfl rfl rfl (V_move rfl rfl) ?_
    refine L_wv rfl rfl rfl rfl rfl rfl (V_len rfl rfl Tryd.underlying22 rfl) ?_
    refine L_wv rfl rfl rfl rfl rfl rfl (V_lss rfl rfl rfl (by first | exact decide_eq_true (by omega) | exact decide_eq_false (by omega) | rfl)) ?_
    first | refine L_v rfl rfl rfl (V_pickT rfl rfl rfl) ?_ | refine L_v rfl rfl rfl (V_pickF rfl rfl rfl) ?_
    refine L_nil ?_
    change J _ _ _ _
    refine J_cond rfl (fun h2 => ?_) (fun h2 => ?_)
    ·
      first | (have h2 := h2; rw [decide_eq_true_eq] at h2) | (have h2 := h2; rw [decide_eq_false_iff_not] at h2) | skip
      refine J_skip ?_
      change J _ _ _ _
      refine J_seq ?_
      refine J_block ?_
      refine J_seq ?_
      refine J_region ?_
      refine L_v rfl rfl rfl (V_move rfl rfl) ?_
      refine L_v rfl rfl rfl (V_move rfl rfl) ?_
      refine L_v rfl rfl rfl (V_slice0 rfl rfl Tryd.underlying22 sz44w (Bd.at (v := i) rfl rfl) rfl rfl (by first | omega | (simp; omega)) (by first | omega | (simp; omega))) ?_
      refine L_callV rfl rfl rfl rfl rfl rfl tx24w (fun w hw => last_w _ _ _ (l.take i) w (by rw [List.length_take]; omega) (vcs_take l i ▸ SlC.take (SlC.later hw rfl hu) (by omega) _) (by omega)) ?_
      refine L_alloc rfl rfl rfl rfl z44w (fun b0 => ?_)
      refine L_storeW 0 rfl rfl rfl rfl rfl rfl (szd sz44w (by first | rfl | (simp [dg_length, zd_length, *]; done))) (vc_one _) (by first | rfl | (simp [dg_length, zd_length, *]; done)) ?_
      refine L_nil ?_
      change J _ _ _ _
      refine J_regionQ rfl (by kernel_rfl) ?_
      refine LQ_v rfl rfl rfl (V_move rfl rfl) ?_
      refine LQ_v rfl rfl rfl (V_move rfl rfl) ?_
      refine LQ_v rfl rfl rfl (V_indexC rfl rfl rfl Tryd.underlying22 sz44w (fun w hw => SlC.later hw rfl hu) (by omega) (by omega)) ?_
      refine LQ_v rfl rfl rfl (V_loadCN (vs := vc (l.getD i v0)) rfl rfl Tryd.underlying44 rfl (szd sz44w (by first | rfl | (simp [dg_length, zd_length, *]; done))) (fun w hw => SlC.later hw rfl hu) (Nat.zero_lt_succ _) (vcs_v (by omega))) ?_
      refine LQ_callV rfl rfl rfl rfl rfl rfl tx25w (fun w _ => may_w _ w) ?_
      refine LQ_v rfl rfl rfl (V_move rfl rfl) ?_
      refine LQ_split 27 rfl (fun h3 => ?_) (fun h3 => ?_)
      ·
        first | (have h3 := h3; rw [decide_eq_true_eq] at h3) | (have h3 := h3; rw [decide_eq_false_iff_not] at h3) | skip
        refine LQ_wv rfl rfl rfl rfl rfl rfl (V_move rfl rfl) ?_
        refine LQ_wv rfl rfl rfl rfl rfl rfl (V_move rfl rfl) ?_
        refine LQ_wv rfl rfl rfl rfl rfl rfl (V_indexC rfl rfl rfl Tryd.underlying22 sz44w (fun w hw => SlC.later hw rfl hu) (by omega) (by omega)) ?_
        refine LQ_wv rfl rfl rfl rfl rfl rfl (V_fieldC rfl rfl (fun w hw => (let ⟨b, o, e, _⟩ := SlC.cell (SlC.later hw rfl hu) (vcs_e (l := l) (i := i) (by omega)); ⟨b, o, e⟩)) Tryd.underlying44 rfl sz3w rfl) ?_
        refine LQ_wv rfl rfl rfl rfl rfl rfl (V_loadC rfl rfl Tryd.underlying3 rfl (fun w hw => SlC.later hw rfl hu) (vcs_e (by omega))) ?_
        refine LQ_wv rfl rfl rfl rfl rfl rfl (V_fieldAddr rfl rfl Tryd.underlying44 rfl sz3w rfl) ?_
        refine LQ_wv rfl rfl rfl rfl rfl rfl (V_load1 0 rfl rfl rfl Tryd.underlying3 rfl (by first | rfl | simp)) ?_
        refine LQ_wv rfl rfl rfl rfl rfl rfl (V_geq rfl rfl rfl (by first | exact decide_eq_true (by omega) | exact decide_eq_false (by omega) | rfl)) ?_
        first | refine LQ_v rfl rfl rfl (V_pickT rfl rfl rfl) ?_ | refine LQ_v rfl rfl rfl (V_pickF rfl rfl rfl) ?_
        refine LQ_v rfl rfl rfl (V_move rfl rfl) ?_
        refine LQ_split 37 rfl (fun h4 => ?_) (fun h4 => ?_)
        ·
          first | (have h4 := h4; rw [decide_eq_true_eq] at h4) | (have h4 := h4; rw [decide_eq_false_iff_not] at h4) | skip
          refine LQ_wv rfl rfl rfl rfl rfl rfl (V_loadW 0 rfl rfl rfl Tryd.underlying44 rfl (szd sz44w (by first | rfl | (simp [dg_length, zd_length, *]; done)))) ?_
          refine LQ_wcallV rfl rfl rfl rfl rfl rfl rfl rfl rfl tx26w (fun w _ => open_w _ w) ?_
          refine LQ_wv rfl rfl rfl rfl rfl rfl (V_move rfl rfl) ?_
          refine LQ_wv rfl rfl rfl rfl rfl rfl (V_move rfl rfl) ?_
          refine LQ_wv rfl rfl rfl rfl rfl rfl (V_indexC rfl rfl rfl Tryd.underlying22 sz44w (fun w hw => SlC.later hw rfl hu) (by omega) (by omega)) ?_
          refine LQ_wv rfl rfl rfl rfl rfl rfl (V_fieldC rfl rfl (fun w hw => (let ⟨b, o, e, _⟩ := SlC.cell (SlC.later hw rfl hu) (vcs_e (l := l) (i := i) (by omega)); ⟨b, o, e⟩)) Tryd.underlying44 rfl sz42w rfl) ?_
          refine LQ_wv rfl rfl rfl rfl rfl rfl (V_loadC rfl rfl Tryd.underlying42 rfl (fun w hw => SlC.later hw rfl hu) (vcs_k (by omega))) ?_
          refine LQ_wv rfl rfl rfl rfl rfl rfl (V_eql rfl rfl rfl (by first | exact decide_eq_true (by omega) | exact decide_eq_false (by omega) | rfl)) ?_
          refine LQ_wv rfl rfl rfl rfl rfl rfl (V_eqB rfl rfl rfl Tryd.underlying4 rfl) ?_
          first | refine LQ_v rfl rfl rfl (V_pickT rfl rfl rfl) ?_ | refine LQ_v rfl rfl rfl (V_pickF rfl rfl rfl) ?_
          refine LQ_v rfl rfl rfl (V_assign rfl rfl) ?_
          refine LQ_nil ?_
          change J _ _ _ _
          refine J_region ?_
          refine L_v rfl rfl rfl (V_move rfl rfl) ?_
          refine L_v rfl rfl rfl (V_add rfl rfl rfl (by first | exact Go.IntWalk.i64_in _ (by omega) | rfl)) ?_
          refine L_v rfl rfl rfl (V_assign rfl rfl) ?_
          refine L_nil ?_
          exact ⟨(i + 1, openV (lastV (l.take i)) == decide ((l.getD i v0).2.1 = 1)), ⟨by show i + 1 ≤ n; omega, chk_t hok (by omega) (nextV_t (by assumption) (by omega))⟩, by show n - (i + 1) < n - i; omega, ⟨rfl, rfl, rfl, trivial⟩, List.nil_sublist _, fun f hf => hf, rfl⟩
        ·
          first | (have h4 := h4; rw [decide_eq_true_eq] at h4) | (have h4 := h4; rw [decide_eq_false_iff_not] at h4) | skip
          refine LQ_skip rfl rfl rfl rfl rfl rfl rfl ?_
          refine LQ_skip rfl rfl rfl rfl rfl rfl rfl ?_
          refine LQ_skip rfl rfl rfl rfl rfl rfl rfl ?_
          refine LQ_skip rfl rfl rfl rfl rfl rfl rfl ?_
          refine LQ_skip rfl rfl rfl rfl rfl rfl rfl ?_
          refine LQ_skip rfl rfl rfl rfl rfl rfl rfl ?_
          refine LQ_skip rfl rfl rfl rfl rfl rfl rfl ?_
          refine LQ_skip rfl rfl rfl rfl rfl rfl rfl ?_
          refine LQ_skip rfl rfl rfl rfl rfl rfl rfl ?_
          first | refine LQ_v rfl rfl rfl (V_pickT rfl rfl rfl) ?_ | refine LQ_v rfl rfl rfl (V_pickF rfl rfl rfl) ?_
          refine LQ_v rfl rfl rfl (V_assign rfl rfl) ?_
          refine LQ_nil ?_
          change J _ _ _ _
          refine J_region ?_
          refine L_v rfl rfl rfl (V_move rfl rfl) ?_
          refine L_v rfl rfl rfl (V_add rfl rfl rfl (by first | exact Go.IntWalk.i64_in _ (by omega) | rfl)) ?_
          refine L_v rfl rfl rfl (V_assign rfl rfl) ?_
          refine L_nil ?_
          exact ⟨(i + 1, false), ⟨by show i + 1 ≤ n; omega, chk_t hok (by omega) (nextV_e (by omega))⟩, by show n - (i + 1) < n - i; omega, ⟨rfl, rfl, rfl, trivial⟩, List.nil_sublist _, fun f hf => hf, rfl⟩
      ·
        first | (have h3 := h3; rw [decide_eq_true_eq] at h3) | (have h3 := h3; rw [decide_eq_false_iff_not] at h3) | skip
        refine LQ_skip rfl rfl rfl rfl rfl rfl rfl ?_
        refine LQ_skip rfl rfl rfl rfl rfl rfl rfl ?_
        refine LQ_skip rfl rfl rfl rfl rfl rfl rfl ?_
        refine LQ_skip rfl rfl rfl rfl rfl rfl rfl ?_
        refine LQ_skip rfl rfl rfl rfl rfl rfl rfl ?_
        refine LQ_skip rfl rfl rfl rfl rfl rfl rfl ?_
        refine LQ_skip rfl rfl rfl rfl rfl rfl rfl ?_
        refine LQ_skip rfl rfl rfl rfl rfl rfl rfl ?_
        first | refine LQ_v rfl rfl rfl (V_pickT rfl rfl rfl) ?_ | refine LQ_v rfl rfl rfl (V_pickF rfl rfl rfl) ?_
        refine LQ_v rfl rfl rfl (V_move rfl rfl) ?_
        refine LQ_skip rfl rfl rfl rfl rfl rfl rfl ?_
        refine LQ_skip rfl rfl rfl rfl rfl rfl rfl ?_
        refine LQ_skip rfl rfl rfl rfl rfl rfl rfl ?_
        refine LQ_skip rfl rfl rfl rfl rfl rfl rfl ?_
        refine LQ_skip rfl rfl rfl rfl rfl rfl rfl ?_
        refine LQ_skip rfl rfl rfl rfl rfl rfl rfl ?_
        refine LQ_skip rfl rfl rfl rfl rfl rfl rfl ?_
        refine LQ_skip rfl rfl rfl rfl rfl rfl rfl ?_
        refine LQ_skip rfl rfl rfl rfl rfl rfl rfl ?_
        first | refine LQ_v rfl rfl rfl (V_pickT rfl rfl rfl) ?_ | refine LQ_v rfl rfl rfl (V_pickF rfl rfl rfl) ?_
        refine LQ_v rfl rfl rfl (V_assign rfl rfl) ?_
        refine LQ_nil ?_
        change J _ _ _ _
        refine J_region ?_
        refine L_v rfl rfl rfl (V_move rfl rfl) ?_
        refine L_v rfl rfl rfl (V_add rfl rfl rfl (by first | exact Go.IntWalk.i64_in _ (by omega) | rfl)) ?_
        refine L_v rfl rfl rfl (V_assign rfl rfl) ?_
        refine L_nil ?_
        exact ⟨(i + 1, false), ⟨by show i + 1 ≤ n; omega, chk_t hok (by omega) (nextV_m (by assumption))⟩, by show n - (i + 1) < n - i; omega, ⟨rfl, rfl, rfl, trivial⟩, List.nil_sublist _, fun f hf => hf, rfl⟩
    ·
      first | (have h2 := h2; rw [decide_eq_true_eq] at h2) | (have h2 := h2; rw [decide_eq_false_iff_not] at h2) | skip
      refine J_exit ?_
      change J _ _ _ _
      refine J_seq ?_
      refine J_seq ?_
      refine J_region ?_
      refine L_v rfl rfl rfl (V_move rfl rfl) ?_
      refine L_v rfl rfl rfl (V_not rfl rfl rfl) ?_
      refine L_nil ?_
      change J _ _ _ _
      refine J_false rfl ?_
      refine J_skip ?_
      change J _ _ _ _
      refine J_seq ?_
      refine J_region ?_
      refine L_v rfl rfl rfl (V_assign rfl rfl) ?_
      refine L_nil ?_
      change J _ _ _ _
      refine J_ret ?_
      change Kret _ _ _ Exit.ret _
      refine ret1 rfl rfl (RV_t rfl) ?_
      have hh : isH l = true := by
        unfold isH
        rw [hl]
        obtain rfl : i = n := by omega
        rw [List.take_of_length_le (by omega)] at hok
        have h6 := Bool.and_eq_true_iff.1 hok.symm
        rw [h6.2, decide_eq_true (by have := of_decide_eq_true h6.1; omega), Bool.true_and]
      exact fun w' h => ⟨by rw [hh]; rfl, h.fr⟩
  ·
    first | (have h1 := h1; rw [decide_eq_true_eq] at h1) | (have h1 := h1; rw [decide_eq_false_iff_not] at h1) | skip
    subst h1
    refine L_skip rfl rfl rfl rfl rfl rfl rfl ?_
    refine L_skip rfl rfl rfl rfl rfl rfl rfl ?_
    refine L_skip rfl rfl rfl rfl rfl rfl rfl ?_
    refine L_skip rfl rfl rfl rfl rfl rfl rfl ?_
    first | refine L_v rfl rfl rfl (V_pickT rfl rfl rfl) ?_ | refine L_v rfl rfl rfl (V_pickF rfl rfl rfl) ?_
    refine L_nil ?_
    change J _ _ _ _
    refine J_false rfl ?_
    refine J_exit ?_
    change J _ _ _ _
    refine J_seq ?_
    refine J_seq ?_
    refine J_region ?_
    refine L_v rfl rfl rfl (V_move rfl rfl) ?_
    refine L_v rfl rfl rfl (V_not rfl rfl rfl) ?_
    refine L_nil ?_
    change J _ _ _ _
    refine J_true rfl ?_
    refine J_seq ?_
    refine J_region ?_
    refine L_v rfl rfl rfl (V_assign rfl rfl) ?_
    refine L_nil ?_
    change J _ _ _ _
    refine J_ret ?_
    change Kret _ _ _ Exit.ret _
    refine ret1 rfl rfl (RV_t rfl) ?_
    have hh : isH l = false := by
      unfold isH
      rw [hl]
      rcases Bool.eq_false_or_eq_true (decide ((n : Int) ≤ 16)) with h5 | h5
      · rw [h5, Bool.true_and] at hok
        rw [fromV_no hok.symm, Bool.and_false]
      · have : decide (n ≤ 16) = false := decide_eq_false (by have := of_decide_eq_false h5; omega)
        rw [this, Bool.false_and]
    exact fun w' h => ⟨by rw [hh]; rfl, h.fr⟩

theorem ish_w (a : Option Addr) (n c : Nat) (l : List Ver) (w : World) (hl : l.length = n) (hu : SlC 3 w (.slice a n c) n (vcs l)) (hn : n ≤ 1048576) :
    Calls Tryd.prog 14 #[.slice a n c] w fun e w' => e = .returned (.bool (isH l)) ∧ Fr [] w w' := by
  refine calls_of (args := [.slice a n c]) ([]) ([]) ([]) Tryd.func14 rfl rfl (okW0 _ _ _ _) ?_
  refine J_seq ?_
  refine J_region ?_
  refine L_v rfl rfl rfl (V_assign rfl rfl) ?_
  refine L_nil ?_
  change J _ _ _ _
  refine J_seq ?_
  refine J_region ?_
  refine L_v rfl rfl rfl (V_build (vs := []) rfl rfl bdV0) ?_
  refine L_alloc rfl rfl rfl rfl z44w (fun b0 => ?_)
  refine L_storeW 0 rfl rfl rfl rfl rfl rfl (szd sz44w (by first | rfl | (simp [dg_length, zd_length, *]; done))) (vc_one _) (by first | rfl | (simp [dg_length, zd_length, *]; done)) ?_
  refine L_nil ?_
  change J _ _ _ _
  refine J_seq ?_
  refine J_seq ?_
  refine J_region ?_
  refine L_v rfl rfl rfl (V_assign rfl rfl) ?_
  refine L_nil ?_
  change J _ _ _ _
  refine J_block ?_
  refine J_loop (X := Nat) (fun i => { env := [(0, .slice a n c), (3, .pointer (some ⟨b0, 0, none⟩)), (4, .int .i64 (i : Int))], mem := [(b0, row 44 (vc (lastV (l.take i))))] }) (fun i => i ≤ n ∧ fromV v0 (l.take i) = true) (fun i => n - i) 0 ⟨Nat.zero_le _, rfl⟩ ⟨⟨rfl, rfl, rfl, trivial⟩, List.Sublist.refl _, fun f hf => hf, rfl⟩ ?_
  rintro i ⟨hi, hok⟩
  refine J_seq ?_
  refine J_seq ?_
  refine J_region ?_
  refine L_v rfl rfl rfl (V_move rfl rfl) ?_
  refine L_v rfl rfl rfl (V_move rfl rfl) ?_
  refine L_v rfl rfl rfl (V_len rfl rfl Tryd.underlying22 rfl) ?_
  refine L_v rfl rfl rfl (V_lss rfl rfl rfl (by first | exact decide_eq_true (by omega) | exact decide_eq_false (by omega) | rfl)) ?_
  refine L_nil ?_
  change J _ _ _ _
  refine J_cond rfl (fun h1 => ?_) (fun h1 => ?_)
  ·
    first | (have h1 := h1; rw [decide_eq_true_eq] at h1) | (have h1 := h1; rw [decide_eq_false_iff_not] at h1) | skip
    refine J_skip ?_
    change J _ _ _ _
    refine J_seq ?_
    refine J_block ?_
    refine J_seq ?_
    refine J_seq ?_
    refine J_regionQ rfl (by kernel_rfl) ?_
    refine LQ_v rfl rfl rfl (V_move rfl rfl) ?_
    refine LQ_v rfl rfl rfl (V_move rfl rfl) ?_
    refine LQ_v rfl rfl rfl (V_indexC rfl rfl rfl Tryd.underlying22 sz44w (fun w hw => SlC.later hw rfl hu) (by omega) (by omega)) ?_
    refine LQ_v rfl rfl rfl (V_loadCN (vs := vc (l.getD i v0)) rfl rfl Tryd.underlying44 rfl (szd sz44w (by first | rfl | (simp [dg_length, zd_length, *]; done))) (fun w hw => SlC.later hw rfl hu) (Nat.zero_lt_succ _) (vcs_v (by omega))) ?_
    refine LQ_callV rfl rfl rfl rfl rfl rfl tx28w (fun w _ => rmay_w _ w) ?_
    refine LQ_v rfl rfl rfl (V_not rfl rfl rfl) ?_
    refine LQ_v rfl rfl rfl (V_move rfl rfl) ?_
    refine LQ_split 18 rfl (fun h2 => ?_) (fun h2 => ?_)
    ·
      first | (have h2 := h2; rw [decide_eq_true_eq] at h2) | (have h2 := h2; rw [decide_eq_false_iff_not] at h2) | skip
      refine LQ_skip rfl rfl rfl rfl rfl rfl rfl ?_
      refine LQ_skip rfl rfl rfl rfl rfl rfl rfl ?_
      refine LQ_skip rfl rfl rfl rfl rfl rfl rfl ?_
      refine LQ_skip rfl rfl rfl rfl rfl rfl rfl ?_
      refine LQ_skip rfl rfl rfl rfl rfl rfl rfl ?_
      refine LQ_skip rfl rfl rfl rfl rfl rfl rfl ?_
      refine LQ_skip rfl rfl rfl rfl rfl rfl rfl ?_
      refine LQ_skip rfl rfl rfl rfl rfl rfl rfl ?_
      first | refine LQ_v rfl rfl rfl (V_pickT rfl rfl rfl) ?_ | refine LQ_v rfl rfl rfl (V_pickF rfl rfl rfl) ?_
      refine LQ_v rfl rfl rfl (V_move rfl rfl) ?_
      refine LQ_skip rfl rfl rfl rfl rfl rfl rfl ?_
      refine LQ_skip rfl rfl rfl rfl rfl rfl rfl ?_
      refine LQ_skip rfl rfl rfl rfl rfl rfl rfl ?_
      refine LQ_skip rfl rfl rfl rfl rfl rfl rfl ?_
      refine LQ_skip rfl rfl rfl rfl rfl rfl rfl ?_
      refine LQ_skip rfl rfl rfl rfl rfl rfl rfl ?_
      refine LQ_skip rfl rfl rfl rfl rfl rfl rfl ?_
      refine LQ_skip rfl rfl rfl rfl rfl rfl rfl ?_
      refine LQ_skip rfl rfl rfl rfl rfl rfl rfl ?_
      first | refine LQ_v rfl rfl rfl (V_pickT rfl rfl rfl) ?_ | refine LQ_v rfl rfl rfl (V_pickF rfl rfl rfl) ?_
      refine LQ_nil ?_
      change J _ _ _ _
      refine J_true rfl ?_
      refine J_seq ?_
      refine J_region ?_
      refine L_v rfl rfl rfl (V_assign rfl rfl) ?_
      refine L_nil ?_
      change J _ _ _ _
      refine J_ret ?_
      change Kret _ _ _ Exit.ret _
      refine ret1 rfl rfl (RV_t rfl) ?_
      have hh : isH l = false := isH_stop (i := i) (by omega) (nextV_m (by simpa using h2))
      exact fun w' h => ⟨by rw [hh], h.fr⟩
    ·
      first | (have h2 := h2; rw [decide_eq_true_eq] at h2) | (have h2 := h2; rw [decide_eq_false_iff_not] at h2) | skip
      refine LQ_wv rfl rfl rfl rfl rfl rfl (V_move rfl rfl) ?_
      refine LQ_wv rfl rfl rfl rfl rfl rfl (V_move rfl rfl) ?_
      refine LQ_wv rfl rfl rfl rfl rfl rfl (V_indexC rfl rfl rfl Tryd.underlying22 sz44w (fun w hw => SlC.later hw rfl hu) (by omega) (by omega)) ?_
      refine LQ_wv rfl rfl rfl rfl rfl rfl (V_fieldC rfl rfl (fun w hw => (let ⟨b, o, e, _⟩ := SlC.cell (SlC.later hw rfl hu) (vcs_e (l := l) (i := i) (by omega)); ⟨b, o, e⟩)) Tryd.underlying44 rfl sz3w rfl) ?_
      refine LQ_wv rfl rfl rfl rfl rfl rfl (V_loadC rfl rfl Tryd.underlying3 rfl (fun w hw => SlC.later hw rfl hu) (vcs_e (by omega))) ?_
      refine LQ_wv rfl rfl rfl rfl rfl rfl (V_fieldAddr rfl rfl Tryd.underlying44 rfl sz3w rfl) ?_
      refine LQ_wv rfl rfl rfl rfl rfl rfl (V_load1 0 rfl rfl rfl Tryd.underlying3 rfl (by first | rfl | simp)) ?_
      refine LQ_wv rfl rfl rfl rfl rfl rfl (V_lss rfl rfl rfl (by first | exact decide_eq_true (by omega) | exact decide_eq_false (by omega) | rfl)) ?_
      first | refine LQ_v rfl rfl rfl (V_pickT rfl rfl rfl) ?_ | refine LQ_v rfl rfl rfl (V_pickF rfl rfl rfl) ?_
      refine LQ_v rfl rfl rfl (V_move rfl rfl) ?_
      refine LQ_split 28 rfl (fun h3 => ?_) (fun h3 => ?_)
      ·
        first | (have h3 := h3; rw [decide_eq_true_eq] at h3) | (have h3 := h3; rw [decide_eq_false_iff_not] at h3) | skip
        refine LQ_skip rfl rfl rfl rfl rfl rfl rfl ?_
        refine LQ_skip rfl rfl rfl rfl rfl rfl rfl ?_
        refine LQ_skip rfl rfl rfl rfl rfl rfl rfl ?_
        refine LQ_skip rfl rfl rfl rfl rfl rfl rfl ?_
        refine LQ_skip rfl rfl rfl rfl rfl rfl rfl ?_
        refine LQ_skip rfl rfl rfl rfl rfl rfl rfl ?_
        refine LQ_skip rfl rfl rfl rfl rfl rfl rfl ?_
        refine LQ_skip rfl rfl rfl rfl rfl rfl rfl ?_
        refine LQ_skip rfl rfl rfl rfl rfl rfl rfl ?_
        first | refine LQ_v rfl rfl rfl (V_pickT rfl rfl rfl) ?_ | refine LQ_v rfl rfl rfl (V_pickF rfl rfl rfl) ?_
        refine LQ_nil ?_
        change J _ _ _ _
        refine J_true rfl ?_
        refine J_seq ?_
        refine J_region ?_
        refine L_v rfl rfl rfl (V_assign rfl rfl) ?_
        refine L_nil ?_
        change J _ _ _ _
        refine J_ret ?_
        change Kret _ _ _ Exit.ret _
        refine ret1 rfl rfl (RV_t rfl) ?_
        have hh : isH l = false := isH_stop (i := i) (by omega) (nextV_e (by omega))
        exact fun w' h => ⟨by rw [hh], h.fr⟩
      ·
        first | (have h3 := h3; rw [decide_eq_true_eq] at h3) | (have h3 := h3; rw [decide_eq_false_iff_not] at h3) | skip
        refine LQ_wv rfl rfl rfl rfl rfl rfl (V_fieldAddr rfl rfl Tryd.underlying44 rfl sz42w rfl) ?_
        refine LQ_wv rfl rfl rfl rfl rfl rfl (V_load1 0 rfl rfl rfl Tryd.underlying42 rfl (by first | rfl | simp)) ?_
        refine LQ_wv rfl rfl rfl rfl rfl rfl (V_move rfl rfl) ?_
        refine LQ_wv rfl rfl rfl rfl rfl rfl (V_move rfl rfl) ?_
        refine LQ_wv rfl rfl rfl rfl rfl rfl (V_indexC rfl rfl rfl Tryd.underlying22 sz44w (fun w hw => SlC.later hw rfl hu) (by omega) (by omega)) ?_
        refine LQ_wv rfl rfl rfl rfl rfl rfl (V_fieldC rfl rfl (fun w hw => (let ⟨b, o, e, _⟩ := SlC.cell (SlC.later hw rfl hu) (vcs_e (l := l) (i := i) (by omega)); ⟨b, o, e⟩)) Tryd.underlying44 rfl sz42w rfl) ?_
        refine LQ_wv rfl rfl rfl rfl rfl rfl (V_loadC rfl rfl Tryd.underlying42 rfl (fun w hw => SlC.later hw rfl hu) (vcs_k (by omega))) ?_
        refine LQ_wcallV rfl rfl rfl rfl rfl rfl rfl rfl rfl tx29w (fun w _ => follows_w _ _ w) ?_
        refine LQ_wv rfl rfl rfl rfl rfl rfl (V_not rfl rfl rfl) ?_
        first | refine LQ_v rfl rfl rfl (V_pickT rfl rfl rfl) ?_ | refine LQ_v rfl rfl rfl (V_pickF rfl rfl rfl) ?_
        refine LQ_nil ?_
        change J _ _ _ _
        refine J_cond rfl (fun h4 => ?_) (fun h4 => ?_)
        ·
          first | (have h4 := h4; rw [decide_eq_true_eq] at h4) | (have h4 := h4; rw [decide_eq_false_iff_not] at h4) | skip
          refine J_seq ?_
          refine J_region ?_
          refine L_v rfl rfl rfl (V_assign rfl rfl) ?_
          refine L_nil ?_
          change J _ _ _ _
          refine J_ret ?_
          change Kret _ _ _ Exit.ret _
          refine ret1 rfl rfl (RV_t rfl) ?_
          have hh : isH l = false := isH_stop (i := i) (by omega) (by rw [← nextV_r (by simpa using h2) (by omega)]; exact (nbT h4).symm)
          exact fun w' h => ⟨by rw [hh], h.fr⟩
        ·
          first | (have h4 := h4; rw [decide_eq_true_eq] at h4) | (have h4 := h4; rw [decide_eq_false_iff_not] at h4) | skip
          refine J_skip ?_
          change J _ _ _ _
          refine J_region ?_
          refine L_v rfl rfl rfl (V_move rfl rfl) ?_
          refine L_v rfl rfl rfl (V_move rfl rfl) ?_
          refine L_v rfl rfl rfl (V_indexC rfl rfl rfl Tryd.underlying22 sz44w (fun w hw => SlC.later hw rfl hu) (by omega) (by omega)) ?_
          refine L_v rfl rfl rfl (V_loadCN (vs := vc (l.getD i v0)) rfl rfl Tryd.underlying44 rfl (szd sz44w (by first | rfl | (simp [dg_length, zd_length, *]; done))) (fun w hw => SlC.later hw rfl hu) (Nat.zero_lt_succ _) (vcs_v (by omega))) ?_
          refine L_storeW 0 rfl rfl rfl rfl rfl rfl (szd sz44w (by first | rfl | (simp [dg_length, zd_length, *]; done))) (vc_one _) (by first | rfl | (simp [dg_length, zd_length, *]; done)) ?_
          refine L_nil ?_
          change J _ _ _ _
          refine J_region ?_
          refine L_v rfl rfl rfl (V_move rfl rfl) ?_
          refine L_v rfl rfl rfl (V_add rfl rfl rfl (by first | exact Go.IntWalk.i64_in _ (by omega) | rfl)) ?_
          refine L_v rfl rfl rfl (V_assign rfl rfl) ?_
          refine L_nil ?_
          have h9 := take_v (l := l) (i := i) (by omega)
          exact ⟨i + 1, ⟨by omega, by rw [fromV_step (by omega), hok, ← nextV_r (by simpa using h2) (by omega)]; exact nbF h4⟩, by omega, ⟨rfl, rfl, rfl, trivial⟩, (by rw [h9, lastV_app]; exact List.Sublist.refl _), fun f hf => hf, rfl⟩
  ·
    first | (have h1 := h1; rw [decide_eq_true_eq] at h1) | (have h1 := h1; rw [decide_eq_false_iff_not] at h1) | skip
    refine J_exit ?_
    change J _ _ _ _
    refine J_seq ?_
    refine J_region ?_
    refine L_v rfl rfl rfl (V_move rfl rfl) ?_
    refine L_v rfl rfl rfl (V_len rfl rfl Tryd.underlying22 rfl) ?_
    refine L_v rfl rfl rfl (V_leq rfl rfl rfl (by first | exact decide_eq_true (by omega) | exact decide_eq_false (by omega) | rfl)) ?_
    refine L_v rfl rfl rfl (V_assign rfl rfl) ?_
    refine L_nil ?_
    change J _ _ _ _
    refine J_ret ?_
    change Kret _ _ _ Exit.ret _
    refine ret1 rfl rfl (RV_t rfl) ?_
    have hh : isH l = decide ((n : Int) ≤ 16) := by
      unfold isH
      obtain rfl : i = n := by omega
      rw [List.take_of_length_le (by omega)] at hok
      rw [hok, Bool.and_true, hl]
      exact decide_eq_decide.2 (by omega)
    exact fun w' h => ⟨by rw [hh], h.fr⟩

theorem same_w (a a2 : Option Addr) (n c n2 c2 : Nat) (l l2 : List Ver) (w : World) (hl : l.length = n) (hu : SlC 3 w (.slice a n c) n (vcs l)) (hl2 : l2.length = n2) (hu2 : SlC 3 w (.slice a2 n2 c2) n2 (vcs l2)) (hn : n ≤ 1048577) (hn2 : n2 ≤ 1048577) :
    Calls Tryd.prog 10 #[.slice a n c, .slice a2 n2 c2] w fun e w' => e = .returned (.bool (decide (l = l2))) ∧ Fr [] w w' := by
  refine calls_of (args := [.slice a n c, .slice a2 n2 c2]) ([]) ([]) ([]) Tryd.func10 rfl rfl (okW0 _ _ _ _) ?_
  refine J_seq ?_
  refine J_region ?_
  refine L_v rfl rfl rfl (V_assign rfl rfl) ?_
  refine L_nil ?_
  change J _ _ _ _
  refine J_seq ?_
  refine J_seq ?_
  refine J_region ?_
  refine L_v rfl rfl rfl (V_move rfl rfl) ?_
  refine L_v rfl rfl rfl (V_len rfl rfl Tryd.underlying22 rfl) ?_
  refine L_v rfl rfl rfl (V_move rfl rfl) ?_
  refine L_v rfl rfl rfl (V_len rfl rfl Tryd.underlying22 rfl) ?_
  refine L_v rfl rfl rfl (V_neq rfl rfl rfl (by first | exact decide_eq_true (by omega) | exact decide_eq_false (by omega) | rfl)) ?_
  refine L_nil ?_
  change J _ _ _ _
  refine J_cond rfl (fun h1 => ?_) (fun h1 => ?_)
  ·
    first | (have h1 := h1; rw [decide_eq_true_eq] at h1) | (have h1 := h1; rw [decide_eq_false_iff_not] at h1) | skip
    refine J_seq ?_
    refine J_region ?_
    refine L_v rfl rfl rfl (V_assign rfl rfl) ?_
    refine L_nil ?_
    change J _ _ _ _
    refine J_ret ?_
    change Kret _ _ _ Exit.ret _
    refine ret1 rfl rfl (RV_t rfl) ?_
    exact fun w' h => ⟨by rw [decide_eq_false (fun e => by subst e; omega)], h.fr⟩
  ·
    first | (have h1 := h1; rw [decide_eq_true_eq] at h1) | (have h1 := h1; rw [decide_eq_false_iff_not] at h1) | skip
    refine J_skip ?_
    change J _ _ _ _
    refine J_seq ?_
    refine J_seq ?_
    refine J_region ?_
    refine L_v rfl rfl rfl (V_assign rfl rfl) ?_
    refine L_nil ?_
    change J _ _ _ _
    refine J_block ?_
    refine J_loop (X := Nat) (fun i => { env := [(0, .slice a n c), (1, .slice a2 n2 c2), (5, .int .i64 (i : Int))] }) (fun i => i ≤ n ∧ l.take i = l2.take i) (fun i => n - i) 0 ⟨Nat.zero_le _, rfl⟩ ⟨⟨rfl, rfl, rfl, trivial⟩, List.Sublist.refl _, fun f hf => hf, rfl⟩ ?_
    rintro i ⟨hi, hok⟩
    have h1 : n = n2 := by omega
    refine J_seq ?_
    refine J_seq ?_
    refine J_region ?_
    refine L_v rfl rfl rfl (V_move rfl rfl) ?_
    refine L_v rfl rfl rfl (V_move rfl rfl) ?_
    refine L_v rfl rfl rfl (V_len rfl rfl Tryd.underlying22 rfl) ?_
    refine L_v rfl rfl rfl (V_lss rfl rfl rfl (by first | exact decide_eq_true (by omega) | exact decide_eq_false (by omega) | rfl)) ?_
    refine L_nil ?_
    change J _ _ _ _
    refine J_cond rfl (fun h2 => ?_) (fun h2 => ?_)
    ·
      first | (have h2 := h2; rw [decide_eq_true_eq] at h2) | (have h2 := h2; rw [decide_eq_false_iff_not] at h2) | skip
      refine J_skip ?_
      change J _ _ _ _
      refine J_seq ?_
      refine J_block ?_
      refine J_seq ?_
      refine J_regionQ rfl (by kernel_rfl) ?_
      refine LQ_v rfl rfl rfl (V_move rfl rfl) ?_
      refine LQ_v rfl rfl rfl (V_move rfl rfl) ?_
      refine LQ_v rfl rfl rfl (V_indexC rfl rfl rfl Tryd.underlying22 sz44w (fun w hw => SlC.later hw rfl hu) (by omega) (by omega)) ?_
      refine LQ_v rfl rfl rfl (V_loadCN (vs := vc (l.getD i v0)) rfl rfl Tryd.underlying44 rfl (szd sz44w (by first | rfl | (simp [dg_length, zd_length, *]; done))) (fun w hw => SlC.later hw rfl hu) (Nat.zero_lt_succ _) (vcs_v (by omega))) ?_
      refine LQ_v rfl rfl rfl (V_move rfl rfl) ?_
      refine LQ_v rfl rfl rfl (V_move rfl rfl) ?_
      refine LQ_v rfl rfl rfl (V_indexC rfl rfl rfl Tryd.underlying22 sz44w (fun w hw => SlC.later hw rfl hu2) (by omega) (by omega)) ?_
      refine LQ_v rfl rfl rfl (V_loadCN (vs := vc (l2.getD i v0)) rfl rfl Tryd.underlying44 rfl (szd sz44w (by first | rfl | (simp [dg_length, zd_length, *]; done))) (fun w hw => SlC.later hw rfl hu2) (Nat.zero_lt_succ _) (vcs_v (by omega))) ?_
      refine LQ_v rfl rfl rfl (V_neAgg rfl rfl rfl egV (fun w => eqV _ _ w) rfl) ?_
      refine LQ_nil ?_
      change J _ _ _ _
      refine J_cond rfl (fun h3 => ?_) (fun h3 => ?_)
      ·
        first | (have h3 := h3; rw [decide_eq_true_eq] at h3) | (have h3 := h3; rw [decide_eq_false_iff_not] at h3) | skip
        refine J_seq ?_
        refine J_region ?_
        refine L_v rfl rfl rfl (V_assign rfl rfl) ?_
        refine L_nil ?_
        change J _ _ _ _
        refine J_ret ?_
        change Kret _ _ _ Exit.ret _
        refine ret1 rfl rfl (RV_t rfl) ?_
        have hx : l.getD i v0 ≠ l2.getD i v0 := fun e => by rw [decide_eq_true e] at h3; cases h3
        exact fun w' h => ⟨by rw [decide_eq_false (fun e => hx (by rw [e]))], h.fr⟩
      ·
        first | (have h3 := h3; rw [decide_eq_true_eq] at h3) | (have h3 := h3; rw [decide_eq_false_iff_not] at h3) | skip
        refine J_skip ?_
        change J _ _ _ _
        refine J_region ?_
        refine L_v rfl rfl rfl (V_move rfl rfl) ?_
        refine L_v rfl rfl rfl (V_add rfl rfl rfl (by first | exact Go.IntWalk.i64_in _ (by omega) | rfl)) ?_
        refine L_v rfl rfl rfl (V_assign rfl rfl) ?_
        refine L_nil ?_
        have hx : l.getD i v0 = l2.getD i v0 := of_decide_eq_true (nbF h3)
        exact ⟨i + 1, ⟨by omega, by rw [take_v (by omega), take_v (by omega), hok, hx]⟩, by omega, ⟨rfl, rfl, rfl, trivial⟩, List.Sublist.refl _, fun f hf => hf, rfl⟩
    ·
      first | (have h2 := h2; rw [decide_eq_true_eq] at h2) | (have h2 := h2; rw [decide_eq_false_iff_not] at h2) | skip
      refine J_exit ?_
      change J _ _ _ _
      refine J_seq ?_
      refine J_region ?_
      refine L_v rfl rfl rfl (V_assign rfl rfl) ?_
      refine L_nil ?_
      change J _ _ _ _
      refine J_ret ?_
      change Kret _ _ _ Exit.ret _
      refine ret1 rfl rfl (RV_t rfl) ?_
      obtain rfl : i = n := by omega
      rw [List.take_of_length_le (by omega), List.take_of_length_le (by omega)] at hok
      exact fun w' h => ⟨by rw [decide_eq_true hok], h.fr⟩

end Go.Proofs.YthafhiemecfjiaaDoor
