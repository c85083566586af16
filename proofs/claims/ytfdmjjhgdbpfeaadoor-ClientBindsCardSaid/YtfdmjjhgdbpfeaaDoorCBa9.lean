/- Part 9 of the texts that the law leans on. -/
import Derived.Test.YtfdmjjhgdbpfeaaDoorCBa8
import Derived.Test.YtfdmjjhgdbpfeaaDoorCBa2
import Derived.Test.YtfdmjjhgdbpfeaaDoorCBa3
import Derived.Test.YtfdmjjhgdbpfeaaDoorCBa5
import Derived.Test.YtfdmjjhgdbpfeaaDoorCBa7
import Derived.Test.YtfdmjjhgdbpfeaaDoorCBa4
/- What the functions of layer 7 that look at lists come to. -/
set_option linter.unusedVariables false
set_option linter.unusedSimpArgs false
set_option maxRecDepth 100000
namespace Go.Proofs.YtfdmjjhgdbpfeaaDoor
open Go.Sx
theorem egV : Tryd.prog.eqGuardType Tryd.prog.depth 79 = false := by kernel_rfl
theorem eqV (x y : Ver) (w : World) : (Op.equal 79 (.agg (vc x).toArray) (.agg (vc y).toArray)).run Tryd.prog w = .ok (decide (x = y)) w := by
  show (Op.equalIn (9999 + 1) _ _ _).run _ w = _
  rw [run_eqStruct w 9999 _ _ (by kernel_rfl) (by kernel_rfl) (spec := [(true, 3, 0), (true, 77, 1), (true, 9, 2)]) (by kernel_rfl)]
  rw [eqF_one (run_part1 (cs := vc x) (v := .int .i64 x.1) Tryd.underlying3 rfl rfl) (run_part1 (cs := vc y) (v := .int .i64 y.1) Tryd.underlying3 rfl rfl) (run_equalIn_int w 9998 _ _ _ x.1 y.1 Tryd.underlying3)]
  rw [eqF_one (run_part1 (cs := vc x) (v := .int .i64 x.2.1) Tryd.underlying77 rfl rfl) (run_part1 (cs := vc y) (v := .int .i64 y.2.1) Tryd.underlying77 rfl rfl) (run_equalIn_int w 9998 _ _ _ x.2.1 y.2.1 Tryd.underlying77)]
  rw [eqF_one (run_part1 (cs := vc x) (v := .string x.2.2) Tryd.underlying9 rfl rfl) (run_part1 (cs := vc y) (v := .string y.2.2) Tryd.underlying9 rfl rfl) (by rw [run_equalIn_string w 9998 _ x.2.2 y.2.2 Tryd.underlying9, str_eq])]
  obtain ⟨x1, x2, x3⟩ := x
  obtain ⟨y1, y2, y3⟩ := y
  by_cases h1 : x1 = y1 <;> by_cases h2 : x2 = y2 <;> by_cases h3 : x3 = y3 <;> simp [h1, h2, h3, eqF]
theorem bsV (v : Ver) (w : World) : (Instr.buildSlice 23 1 [(0, .agg (vc v).toArray)].toArray).run Tryd.prog w = .ok (.slice (some ⟨w.heap.size, 0, none⟩) 1 1) (w.alloc (row 79 (vc v))) := by kernel_rfl
theorem bs0 (w : World) : (Instr.buildSlice 23 0 ([] : List (Nat × Value)).toArray).run Tryd.prog w = .ok (.slice (some ⟨w.heap.size, 0, none⟩) 0 0) (w.alloc (row 79 [])) := by kernel_rfl
theorem sz3w : (Tryd.prog.info? 3).map (·.size) = some 1 := by kernel_rfl
theorem sz77w : (Tryd.prog.info? 77).map (·.size) = some 1 := by kernel_rfl
theorem sz79w : (Tryd.prog.info? 79).map (·.size) = some 3 := by kernel_rfl
theorem tx44w : Txt Tryd.prog 44 := txt_of Tryd.func44 rfl (by kernel_rfl)
theorem tx45w : Txt Tryd.prog 45 := txt_of Tryd.func45 rfl (by kernel_rfl)
theorem tx46w : Txt Tryd.prog 46 := txt_of Tryd.func46 rfl (by kernel_rfl)
theorem tx49w : Txt Tryd.prog 49 := txt_of Tryd.func49 rfl (by kernel_rfl)
theorem tx50w : Txt Tryd.prog 50 := txt_of Tryd.func50 rfl (by kernel_rfl)
theorem z79w : (Tryd.prog.info? 79).bind (·.zero) = some (.agg (vc v0).toArray) := by kernel_rfl

theorem check_w (a : Option Addr) (n c : Nat) (l : List Ver) (w : World) (hl : l.length = n) (hu : SlC 3 w (.slice a n c) n (vcs l)) (hn : n ≤ 1048576) (hcn : n ≤ c) :
    Calls Tryd.prog 19 #[.slice a n c] w fun e w' => e = .returned (.int .i64 (if isH l = true then 0 else 50)) ∧ Fr [] w w' := by
  refine calls_of (args := [.slice a n c]) ([]) ([]) ([]) Tryd.func19 rfl rfl (okW0 _ _ _ _) ?_
  refine J_seq ?_
  refine J_region ?_
  refine L_v rfl rfl rfl (V_assign rfl rfl) ?_
  refine L_nil ?_
  change J _ _ _ _
  refine J_seq ?_
  refine J_region ?_
  refine L_v rfl rfl rfl (V_move rfl rfl) ?_
  refine L_v rfl rfl rfl (V_len rfl rfl Tryd.underlying23 rfl) ?_
  refine L_v rfl rfl rfl (V_leq rfl rfl rfl (by first | exact decide_eq_true (by omega) | exact decide_eq_false (by omega) | rfl)) ?_
  refine L_v rfl rfl rfl (V_assign rfl rfl) ?_
  refine L_nil ?_
  change J _ _ _ _
  refine J_seq ?_
  refine J_seq ?_
  refine J_region ?_
  refine L_v rfl rfl rfl (V_assign rfl rfl) ?_
  refine L_nil ?_
  change J _ _ _ _
  refine J_block ?_
  refine J_loop (X := Nat × Bool) (fun q => { env := [(0, .slice a n c), (3, .bool q.2), (4, .int .i64 (q.1 : Int))] }) (fun q => q.1 ≤ n ∧ q.2 = (decide ((n : Int) ≤ 16) && fromV v0 (l.take q.1))) (fun q => n - q.1) (0, decide ((n : Int) ≤ 16)) ⟨Nat.zero_le _, by simp [fromV]⟩ ⟨⟨rfl, rfl, rfl, trivial⟩, List.Sublist.refl _, fun f hf => hf, rfl⟩ ?_
  rintro ⟨i, ok⟩ ⟨hi, hok⟩
  simp only at hi hok ⊢
  refine J_seq ?_
  refine J_seq ?_
  refine J_region ?_
  refine L_v rfl rfl rfl (V_move rfl rfl) ?_
  refine L_v rfl rfl rfl (V_move rfl rfl) ?_
  refine L_split 10 rfl (fun h1 => ?_) (fun h1 => ?_)
  ·
    first | (have h1 := h1; rw [decide_eq_true_eq] at h1) | (have h1 := h1; rw [decide_eq_false_iff_not] at h1) | skip
    subst h1
    refine L_wv rfl rfl rfl rfl rfl rfl (V_move rfl rfl) ?_
    refine L_wv rfl rfl rfl rfl rfl rfl (V_move rfl rfl) ?_
    refine L_wv rfl rfl rfl rfl rfl rfl (V_len rfl rfl Tryd.underlying23 rfl) ?_
    refine L_wv rfl rfl rfl rfl rfl rfl (V_lss rfl rfl rfl (by first | exact decide_eq_true (by omega) | exact decide_eq_false (by omega) | rfl)) ?_
    first | refine L_v rfl rfl rfl (V_pickT rfl rfl rfl) ?_ | refine L_v rfl rfl rfl (V_pickF rfl rfl rfl) ?_
    refine L_nil ?_
    change J _ _ _ _
    refine J_cond rfl (fun h2 => ?_) (fun h2 => ?_)
    ·
      first | (have h2 := h2; rw [decide_eq_true_eq] at h2) | (have h2 := h2; rw [decide_eq_false_iff_not] at h2) | skip
      refine J_skip ?_
      change J _ _ _ _
      refine J_seq ?_
      refine J_block ?_
      refine J_seq ?_
      refine J_region ?_
      refine L_v rfl rfl rfl (V_move rfl rfl) ?_
      refine L_v rfl rfl rfl (V_move rfl rfl) ?_
      refine L_v rfl rfl rfl (V_slice0 rfl rfl Tryd.underlying23 sz79w (Bd.at (v := i) rfl rfl) rfl rfl (by first | omega | (simp; omega)) (by first | omega | (simp; omega))) ?_
      refine L_callV rfl rfl rfl rfl rfl rfl tx44w (fun w hw => last_w _ _ _ (l.take i) w (by rw [List.length_take]; omega) (vcs_take l i ▸ SlC.take (SlC.later hw rfl hu) (by omega) _) (by omega)) ?_
      refine L_alloc rfl rfl rfl rfl z79w (fun b0 => ?_)
      refine L_storeW 0 rfl rfl rfl rfl rfl rfl (szd sz79w (by first | rfl | (simp [dg_length, zd_length, *]; done))) (vc_one _) (by first | rfl | (simp [dg_length, zd_length, *]; done)) ?_
      refine L_nil ?_
      change J _ _ _ _
      refine J_regionQ rfl (by kernel_rfl) ?_
      refine LQ_v rfl rfl rfl (V_move rfl rfl) ?_
      refine LQ_v rfl rfl rfl (V_move rfl rfl) ?_
      refine LQ_v rfl rfl rfl (V_indexC rfl rfl rfl Tryd.underlying23 sz79w (fun w hw => SlC.later hw rfl hu) (by omega) (by omega)) ?_
      refine LQ_v rfl rfl rfl (V_loadCN (vs := vc (l.getD i v0)) rfl rfl Tryd.underlying79 rfl (szd sz79w (by first | rfl | (simp [dg_length, zd_length, *]; done))) (fun w hw => SlC.later hw rfl hu) (Nat.zero_lt_succ _) (vcs_v (by omega))) ?_
      refine LQ_callV rfl rfl rfl rfl rfl rfl tx45w (fun w _ => may_w _ w) ?_
      refine LQ_v rfl rfl rfl (V_move rfl rfl) ?_
      refine LQ_split 27 rfl (fun h3 => ?_) (fun h3 => ?_)
      ·
        first | (have h3 := h3; rw [decide_eq_true_eq] at h3) | (have h3 := h3; rw [decide_eq_false_iff_not] at h3) | skip
        refine LQ_wv rfl rfl rfl rfl rfl rfl (V_move rfl rfl) ?_
        refine LQ_wv rfl rfl rfl rfl rfl rfl (V_move rfl rfl) ?_
        refine LQ_wv rfl rfl rfl rfl rfl rfl (V_indexC rfl rfl rfl Tryd.underlying23 sz79w (fun w hw => SlC.later hw rfl hu) (by omega) (by omega)) ?_
        refine LQ_wv rfl rfl rfl rfl rfl rfl (V_fieldC rfl rfl (fun w hw => (let ⟨b, o, e, _⟩ := SlC.cell (SlC.later hw rfl hu) (vcs_e (l := l) (i := i) (by omega)); ⟨b, o, e⟩)) Tryd.underlying79 rfl sz3w rfl) ?_
        refine LQ_wv rfl rfl rfl rfl rfl rfl (V_loadC rfl rfl Tryd.underlying3 rfl (fun w hw => SlC.later hw rfl hu) (vcs_e (by omega))) ?_
        refine LQ_wv rfl rfl rfl rfl rfl rfl (V_fieldAddr rfl rfl Tryd.underlying79 rfl sz3w rfl) ?_
        refine LQ_wv rfl rfl rfl rfl rfl rfl (V_load1 0 rfl rfl rfl Tryd.underlying3 rfl (by first | rfl | simp)) ?_
        refine LQ_wv rfl rfl rfl rfl rfl rfl (V_geq rfl rfl rfl (by first | exact decide_eq_true (by omega) | exact decide_eq_false (by omega) | rfl)) ?_
        first | refine LQ_v rfl rfl rfl (V_pickT rfl rfl rfl) ?_ | refine LQ_v rfl rfl rfl (V_pickF rfl rfl rfl) ?_
        refine LQ_v rfl rfl rfl (V_move rfl rfl) ?_
        refine LQ_split 37 rfl (fun h4 => ?_) (fun h4 => ?_)
        ·
          first | (have h4 := h4; rw [decide_eq_true_eq] at h4) | (have h4 := h4; rw [decide_eq_false_iff_not] at h4) | skip
          refine LQ_wv rfl rfl rfl rfl rfl rfl (V_loadW 0 rfl rfl rfl Tryd.underlying79 rfl (szd sz79w (by first | rfl | (simp [dg_length, zd_length, *]; done)))) ?_
          refine LQ_wcallV rfl rfl rfl rfl rfl rfl rfl rfl rfl tx46w (fun w _ => open_w _ w) ?_
          refine LQ_wv rfl rfl rfl rfl rfl rfl (V_move rfl rfl) ?_
          refine LQ_wv rfl rfl rfl rfl rfl rfl (V_move rfl rfl) ?_
          refine LQ_wv rfl rfl rfl rfl rfl rfl (V_indexC rfl rfl rfl Tryd.underlying23 sz79w (fun w hw => SlC.later hw rfl hu) (by omega) (by omega)) ?_
          refine LQ_wv rfl rfl rfl rfl rfl rfl (V_fieldC rfl rfl (fun w hw => (let ⟨b, o, e, _⟩ := SlC.cell (SlC.later hw rfl hu) (vcs_e (l := l) (i := i) (by omega)); ⟨b, o, e⟩)) Tryd.underlying79 rfl sz77w rfl) ?_
          refine LQ_wv rfl rfl rfl rfl rfl rfl (V_loadC rfl rfl Tryd.underlying77 rfl (fun w hw => SlC.later hw rfl hu) (vcs_k (by omega))) ?_
          refine LQ_wv rfl rfl rfl rfl rfl rfl (V_eql rfl rfl rfl (by first | exact decide_eq_true (by omega) | exact decide_eq_false (by omega) | rfl)) ?_
          refine LQ_wv rfl rfl rfl rfl rfl rfl (V_eqB rfl rfl rfl Tryd.underlying4 rfl) ?_
          first | refine LQ_v rfl rfl rfl (V_pickT rfl rfl rfl) ?_ | refine LQ_v rfl rfl rfl (V_pickF rfl rfl rfl) ?_
          refine LQ_v rfl rfl rfl (V_assign rfl rfl) ?_
          refine LQ_nil ?_
          change J _ _ _ _
          refine J_region ?_
          refine L_v rfl rfl rfl (V_move rfl rfl) ?_
          refine L_v rfl rfl rfl (V_add rfl rfl rfl (by first | exact Go.IntWalk.i64_in _ (by omega) | rfl)) ?_
          refine L_v rfl rfl rfl (V_assign rfl rfl) ?_
          refine L_nil ?_
          exact ⟨(i + 1, openV (lastV (l.take i)) == decide ((l.getD i v0).2.1 = 1)), ⟨by show i + 1 ≤ n; omega, chk_t hok (by omega) (nextV_t (by assumption) (by omega))⟩, by show n - (i + 1) < n - i; omega, ⟨rfl, rfl, rfl, trivial⟩, List.nil_sublist _, fun f hf => hf, rfl⟩
        ·
          first | (have h4 := h4; rw [decide_eq_true_eq] at h4) | (have h4 := h4; rw [decide_eq_false_iff_not] at h4) | skip
          refine LQ_skip rfl rfl rfl rfl rfl rfl rfl ?_
          refine LQ_skip rfl rfl rfl rfl rfl rfl rfl ?_
          refine LQ_skip rfl rfl rfl rfl rfl rfl rfl ?_
          refine LQ_skip rfl rfl rfl rfl rfl rfl rfl ?_
          refine LQ_skip rfl rfl rfl rfl rfl rfl rfl ?_
          refine LQ_skip rfl rfl rfl rfl rfl rfl rfl ?_
          refine LQ_skip rfl rfl rfl rfl rfl rfl rfl ?_
          refine LQ_skip rfl rfl rfl rfl rfl rfl rfl ?_
          refine LQ_skip rfl rfl rfl rfl rfl rfl rfl ?_
          first | refine LQ_v rfl rfl rfl (V_pickT rfl rfl rfl) ?_ | refine LQ_v rfl rfl rfl (V_pickF rfl rfl rfl) ?_
          refine LQ_v rfl rfl rfl (V_assign rfl rfl) ?_
          refine LQ_nil ?_
          change J _ _ _ _
          refine J_region ?_
          refine L_v rfl rfl rfl (V_move rfl rfl) ?_
          refine L_v rfl rfl rfl (V_add rfl rfl rfl (by first | exact Go.IntWalk.i64_in _ (by omega) | rfl)) ?_
          refine L_v rfl rfl rfl (V_assign rfl rfl) ?_
          refine L_nil ?_
          exact ⟨(i + 1, false), ⟨by show i + 1 ≤ n; omega, chk_t hok (by omega) (nextV_e (by omega))⟩, by show n - (i + 1) < n - i; omega, ⟨rfl, rfl, rfl, trivial⟩, List.nil_sublist _, fun f hf => hf, rfl⟩
      ·
        first | (have h3 := h3; rw [decide_eq_true_eq] at h3) | (have h3 := h3; rw [decide_eq_false_iff_not] at h3) | skip
        refine LQ_skip rfl rfl rfl rfl rfl rfl rfl ?_
        refine LQ_skip rfl rfl rfl rfl rfl rfl rfl ?_
        refine LQ_skip rfl rfl rfl rfl rfl rfl rfl ?_
        refine LQ_skip rfl rfl rfl rfl rfl rfl rfl ?_
        refine LQ_skip rfl rfl rfl rfl rfl rfl rfl ?_
        refine LQ_skip rfl rfl rfl rfl rfl rfl rfl ?_
        refine LQ_skip rfl rfl rfl rfl rfl rfl rfl ?_
        refine LQ_skip rfl rfl rfl rfl rfl rfl rfl ?_
        first | refine LQ_v rfl rfl rfl (V_pickT rfl rfl rfl) ?_ | refine LQ_v rfl rfl rfl (V_pickF rfl rfl rfl) ?_
        refine LQ_v rfl rfl rfl (V_move rfl rfl) ?_
        refine LQ_skip rfl rfl rfl rfl rfl rfl rfl ?_
        refine LQ_skip rfl rfl rfl rfl rfl rfl rfl ?_
        refine LQ_skip rfl rfl rfl rfl rfl rfl rfl ?_
        refine LQ_skip rfl rfl rfl rfl rfl rfl rfl ?_
        refine LQ_skip rfl rfl rfl rfl rfl rfl rfl ?_
        refine LQ_skip rfl rfl rfl rfl rfl rfl rfl ?_
        refine LQ_skip rfl rfl rfl rfl rfl rfl rfl ?_
        refine LQ_skip rfl rfl rfl rfl rfl rfl rfl ?_
        refine LQ_skip rfl rfl rfl rfl rfl rfl rfl ?_
        first | refine LQ_v rfl rfl rfl (V_pickT rfl rfl rfl) ?_ | refine LQ_v rfl rfl rfl (V_pickF rfl rfl rfl) ?_
        refine LQ_v rfl rfl rfl (V_assign rfl rfl) ?_
        refine LQ_nil ?_
        change J _ _ _ _
        refine J_region ?_
        refine L_v rfl rfl rfl (V_move rfl rfl) ?_
        refine L_v rfl rfl rfl (V_add rfl rfl rfl (by first | exact Go.IntWalk.i64_in _ (by omega) | rfl)) ?_
        refine L_v rfl rfl rfl (V_assign rfl rfl) ?_
        refine L_nil ?_
        exact ⟨(i + 1, false), ⟨by show i + 1 ≤ n; omega, chk_t hok (by omega) (nextV_m (by assumption))⟩, by show n - (i + 1) < n - i; omega, ⟨rfl, rfl, rfl, trivial⟩, List.nil_sublist _, fun f hf => hf, rfl⟩
    ·
      first | (have h2 := h2; rw [decide_eq_true_eq] at h2) | (have h2 := h2; rw [decide_eq_false_iff_not] at h2) | skip
      refine J_exit ?_
      change J _ _ _ _
      refine J_seq ?_
      refine J_seq ?_
      refine J_region ?_
      refine L_v rfl rfl rfl (V_move rfl rfl) ?_
      refine L_v rfl rfl rfl (V_not rfl rfl rfl) ?_
      refine L_nil ?_
      change J _ _ _ _
      refine J_false rfl ?_
      refine J_skip ?_
      change J _ _ _ _
      refine J_seq ?_
      refine J_region ?_
      refine L_v rfl rfl rfl (V_assign rfl rfl) ?_
      refine L_nil ?_
      change J _ _ _ _
      refine J_ret ?_
      change Kret _ _ _ Exit.ret _
      refine ret1 rfl rfl (RV_t rfl) ?_
      have hh : isH l = true := by
        unfold isH
        rw [hl]
        obtain rfl : i = n := by omega
        rw [List.take_of_length_le (by omega)] at hok
        have h6 := Bool.and_eq_true_iff.1 hok.symm
        rw [h6.2, decide_eq_true (by have := of_decide_eq_true h6.1; omega), Bool.true_and]
      exact fun w' h => ⟨by rw [hh]; rfl, h.fr⟩
  ·
    first | (have h1 := h1; rw [decide_eq_true_eq] at h1) | (have h1 := h1; rw [decide_eq_false_iff_not] at h1) | skip
    subst h1
    refine L_skip rfl rfl rfl rfl rfl rfl rfl ?_
    refine L_skip rfl rfl rfl rfl rfl rfl rfl ?_
    refine L_skip rfl rfl rfl rfl rfl rfl rfl ?_
    refine L_skip rfl rfl rfl rfl rfl rfl rfl ?_
    first | refine L_v rfl rfl rfl (V_pickT rfl rfl rfl) ?_ | refine L_v rfl rfl rfl (V_pickF rfl rfl rfl) ?_
    refine L_nil ?_
    change J _ _ _ _
    refine J_false rfl ?_
    refine J_exit ?_
    change J _ _ _ _
    refine J_seq ?_
    refine J_seq ?_
    refine J_region ?_
    refine L_v rfl rfl rfl (V_move rfl rfl) ?_
    refine L_v rfl rfl rfl (V_not rfl rfl rfl) ?_
    refine L_nil ?_
    change J _ _ _ _
    refine J_true rfl ?_
    refine J_seq ?_
    refine J_region ?_
    refine L_v rfl rfl rfl (V_assign rfl rfl) ?_
    refine L_nil ?_
    change J _ _ _ _
    refine J_ret ?_
    change Kret _ _ _ Exit.ret _
    refine ret1 rfl rfl (RV_t rfl) ?_
    have hh : isH l = false := by
      unfold isH
      rw [hl]
      rcases Bool.eq_false_or_eq_true (decide ((n : Int) ≤ 16)) with h5 | h5
      · rw [h5, Bool.true_and] at hok
        rw [fromV_no hok.symm, Bool.and_false]
      · have : decide (n ≤ 16) = false := decide_eq_false (by have := of_decide_eq_false h5; omega)
        rw [this, Bool.false_and]
    exact fun w' h => ⟨by rw [hh]; rfl, h.fr⟩

theorem ish_w (a : Option Addr) (n c : Nat) (l : List Ver) (w : World) (hl : l.length = n) (hu : SlC 3 w (.slice a n c) n (vcs l)) (hn : n ≤ 1048576) :
    Calls Tryd.prog 23 #[.slice a n c] w fun e w' => e = .returned (.bool (isH l)) ∧ Fr [] w w' := by
  refine calls_of (args := [.slice a n c]) ([]) ([]) ([]) Tryd.func23 rfl rfl (okW0 _ _ _ _) ?_
  refine J_seq ?_
  refine J_region ?_
  refine L_v rfl rfl rfl (V_assign rfl rfl) ?_
  refine L_nil ?_
  change J _ _ _ _
  refine J_seq ?_
  refine J_region ?_
  refine L_v rfl rfl rfl (V_build (vs := []) rfl rfl bdV0) ?_
  refine L_alloc rfl rfl rfl rfl z79w (fun b0 => ?_)
  refine L_storeW 0 rfl rfl rfl rfl rfl rfl (szd sz79w (by first | rfl | (simp [dg_length, zd_length, *]; done))) (vc_one _) (by first | rfl | (simp [dg_length, zd_length, *]; done)) ?_
  refine L_nil ?_
  change J _ _ _ _
  refine J_seq ?_
  refine J_seq ?_
  refine J_region ?_
  refine L_v rfl rfl rfl (V_assign rfl rfl) ?_
  refine L_nil ?_
  change J _ _ _ _
  refine J_block ?_
  refine J_loop (X := Nat) (fun i => { env := [(0, .slice a n c), (3, .pointer (some ⟨b0, 0, none⟩)), (4, .int .i64 (i : Int))], mem := [(b0, row 79 (vc (lastV (l.take i))))] }) (fun i => i ≤ n ∧ fromV v0 (l.take i) = true) (fun i => n - i) 0 ⟨Nat.zero_le _, rfl⟩ ⟨⟨rfl, rfl, rfl, trivial⟩, List.Sublist.refl _, fun f hf => hf, rfl⟩ ?_
  rintro i ⟨hi, hok⟩
  refine J_seq ?_
  refine J_seq ?_
  refine J_region ?_
  refine L_v rfl rfl rfl (V_move rfl rfl) ?_
  refine L_v rfl rfl rfl (V_move rfl rfl) ?_
  refine L_v rfl rfl rfl (V_len rfl rfl Tryd.underlying23 rfl) ?_
  refine L_v rfl rfl rfl (V_lss rfl rfl rfl (by first | exact decide_eq_true (by omega) | exact decide_eq_false (by omega) | rfl)) ?_
  refine L_nil ?_
  change J _ _ _ _
  refine J_cond rfl (fun h1 => ?_) (fun h1 => ?_)
  ·
    first | (have h1 := h1; rw [decide_eq_true_eq] at h1) | (have h1 := h1; rw [decide_eq_false_iff_not] at h1) | skip
    refine J_skip ?_
    change J _ _ _ _
    refine J_seq ?_
    refine J_block ?_
    refine J_seq ?_
    refine J_seq ?_
    refine J_regionQ rfl (by kernel_rfl) ?_
    refine LQ_v rfl rfl rfl (V_move rfl rfl) ?_
    refine LQ_v rfl rfl rfl (V_move rfl rfl) ?_
    refine LQ_v rfl rfl rfl (V_indexC rfl rfl rfl Tryd.underlying23 sz79w (fun w hw => SlC.later hw rfl hu) (by omega) (by omega)) ?_
    refine LQ_v rfl rfl rfl (V_loadCN (vs := vc (l.getD i v0)) rfl rfl Tryd.underlying79 rfl (szd sz79w (by first | rfl | (simp [dg_length, zd_length, *]; done))) (fun w hw => SlC.later hw rfl hu) (Nat.zero_lt_succ _) (vcs_v (by omega))) ?_
    refine LQ_callV rfl rfl rfl rfl rfl rfl tx49w (fun w _ => rmay_w _ w) ?_
    refine LQ_v rfl rfl rfl (V_not rfl rfl rfl) ?_
    refine LQ_v rfl rfl rfl (V_move rfl rfl) ?_
    refine LQ_split 18 rfl (fun h2 => ?_) (fun h2 => ?_)
    ·
      first | (have h2 := h2; rw [decide_eq_true_eq] at h2) | (have h2 := h2; rw [decide_eq_false_iff_not] at h2) | skip
      refine LQ_skip rfl rfl rfl rfl rfl rfl rfl ?_
      refine LQ_skip rfl rfl rfl rfl rfl rfl rfl ?_
      refine LQ_skip rfl rfl rfl rfl rfl rfl rfl ?_
      refine LQ_skip rfl rfl rfl rfl rfl rfl rfl ?_
      refine LQ_skip rfl rfl rfl rfl rfl rfl rfl ?_
      refine LQ_skip rfl rfl rfl rfl rfl rfl rfl ?_
      refine LQ_skip rfl rfl rfl rfl rfl rfl rfl ?_
      refine LQ_skip rfl rfl rfl rfl rfl rfl rfl ?_
      first | refine LQ_v rfl rfl rfl (V_pickT rfl rfl rfl) ?_ | refine LQ_v rfl rfl rfl (V_pickF rfl rfl rfl) ?_
      refine LQ_v rfl rfl rfl (V_move rfl rfl) ?_
      refine LQ_skip rfl rfl rfl rfl rfl rfl rfl ?_
      refine LQ_skip rfl rfl rfl rfl rfl rfl rfl ?_
      refine LQ_skip rfl rfl rfl rfl rfl rfl rfl ?_
      refine LQ_skip rfl rfl rfl rfl rfl rfl rfl ?_
      refine LQ_skip rfl rfl rfl rfl rfl rfl rfl ?_
      refine LQ_skip rfl rfl rfl rfl rfl rfl rfl ?_
      refine LQ_skip rfl rfl rfl rfl rfl rfl rfl ?_
      refine LQ_skip rfl rfl rfl rfl rfl rfl rfl ?_
      refine LQ_skip rfl rfl rfl rfl rfl rfl rfl ?_
      first | refine LQ_v rfl rfl rfl (V_pickT rfl rfl rfl) ?_ | refine LQ_v rfl rfl rfl (V_pickF rfl rfl rfl) ?_
      refine LQ_nil ?_
      change J _ _ _ _
      refine J_true rfl ?_
      refine J_seq ?_
      refine J_region ?_
      refine L_v rfl rfl rfl (V_assign rfl rfl) ?_
      refine L_nil ?_
      change J _ _ _ _
      refine J_ret ?_
      change Kret _ _ _ Exit.ret _
      refine ret1 rfl rfl (RV_t rfl) ?_
      have hh : isH l = false := isH_stop (i := i) (by omega) (nextV_m (by simpa using h2))
      exact fun w' h => ⟨by rw [hh], h.fr⟩
    ·
      first | (have h2 := h2; rw [decide_eq_true_eq] at h2) | (have h2 := h2; rw [decide_eq_false_iff_not] at h2) | skip
      refine LQ_wv rfl rfl rfl rfl rfl rfl (V_move rfl rfl) ?_
      refine LQ_wv rfl rfl rfl rfl rfl rfl (V_move rfl rfl) ?_
      refine LQ_wv rfl rfl rfl rfl rfl rfl (V_indexC rfl rfl rfl Tryd.underlying23 sz79w (fun w hw => SlC.later hw rfl hu) (by omega) (by omega)) ?_
      refine LQ_wv rfl rfl rfl rfl rfl rfl (V_fieldC rfl rfl (fun w hw => (let ⟨b, o, e, _⟩ := SlC.cell (SlC.later hw rfl hu) (vcs_e (l := l) (i := i) (by omega)); ⟨b, o, e⟩)) Tryd.underlying79 rfl sz3w rfl) ?_
      refine LQ_wv rfl rfl rfl rfl rfl rfl (V_loadC rfl rfl Tryd.underlying3 rfl (fun w hw => SlC.later hw rfl hu) (vcs_e (by omega))) ?_
      refine LQ_wv rfl rfl rfl rfl rfl rfl (V_fieldAddr rfl rfl Tryd.underlying79 rfl sz3w rfl) ?_
      refine LQ_wv rfl rfl rfl rfl rfl rfl (V_load1 0 rfl rfl rfl Tryd.underlying3 rfl (by first | rfl | simp)) ?_
      refine LQ_wv rfl rfl rfl rfl rfl rfl (V_lss rfl rfl rfl (by first | exact decide_eq_true (by omega) | exact decide_eq_false (by omega) | rfl)) ?_
      first | refine LQ_v rfl rfl rfl (V_pickT rfl rfl rfl) ?_ | refine LQ_v rfl rfl rfl (V_pickF rfl rfl rfl) ?_
      refine LQ_v rfl rfl rfl (V_move rfl rfl) ?_
      refine LQ_split 28 rfl (fun h3 => ?_) (fun h3 => ?_)
      ·
        first | (have h3 := h3; rw [decide_eq_true_eq] at h3) | (have h3 := h3; rw [decide_eq_false_iff_not] at h3) | skip
        refine LQ_skip rfl rfl rfl rfl rfl rfl rfl ?_
        refine LQ_skip rfl rfl rfl rfl rfl rfl rfl ?_
        refine LQ_skip rfl rfl rfl rfl rfl rfl rfl ?_
        refine LQ_skip rfl rfl rfl rfl rfl rfl rfl ?_
        refine LQ_skip rfl rfl rfl rfl rfl rfl rfl ?_
        refine LQ_skip rfl rfl rfl rfl rfl rfl rfl ?_
        refine LQ_skip rfl rfl rfl rfl rfl rfl rfl ?_
        refine LQ_skip rfl rfl rfl rfl rfl rfl rfl ?_
        refine LQ_skip rfl rfl rfl rfl rfl rfl rfl ?_
        first | refine LQ_v rfl rfl rfl (V_pickT rfl rfl rfl) ?_ | refine LQ_v rfl rfl rfl (V_pickF rfl rfl rfl) ?_
        refine LQ_nil ?_
        change J _ _ _ _
        refine J_true rfl ?_
        refine J_seq ?_
        refine J_region ?_
        refine L_v rfl rfl rfl (V_assign rfl rfl) ?_
        refine L_nil ?_
        change J _ _ _ _
        refine J_ret ?_
        change Kret _ _ _ Exit.ret _
        refine ret1 rfl rfl (RV_t rfl) ?_
        have hh : isH l = false := isH_stop (i := i) (by omega) (nextV_e (by omega))
        exact fun w' h => ⟨by rw [hh], h.fr⟩
      ·
        first | (have h3 := h3; rw [decide_eq_true_eq] at h3) | (have h3 := h3; rw [decide_eq_false_iff_not] at h3) | skip
        refine LQ_wv rfl rfl rfl rfl rfl rfl (V_fieldAddr rfl rfl Tryd.underlying79 rfl sz77w rfl) ?_
        refine LQ_wv rfl rfl rfl rfl rfl rfl (V_load1 0 rfl rfl rfl Tryd.underlying77 rfl (by first | rfl | simp)) ?_
        refine LQ_wv rfl rfl rfl rfl rfl rfl (V_move rfl rfl) ?_
        refine LQ_wv rfl rfl rfl rfl rfl rfl (V_move rfl rfl) ?_
        refine LQ_wv rfl rfl rfl rfl rfl rfl (V_indexC rfl rfl rfl Tryd.underlying23 sz79w (fun w hw => SlC.later hw rfl hu) (by omega) (by omega)) ?_
        refine LQ_wv rfl rfl rfl rfl rfl rfl (V_fieldC rfl rfl (fun w hw => (let ⟨b, o, e, _⟩ := SlC.cell (SlC.later hw rfl hu) (vcs_e (l := l) (i := i) (by omega)); ⟨b, o, e⟩)) Tryd.underlying79 rfl sz77w rfl) ?_
        refine LQ_wv rfl rfl rfl rfl rfl rfl (V_loadC rfl rfl Tryd.underlying77 rfl (fun w hw => SlC.later hw rfl hu) (vcs_k (by omega))) ?_
        refine LQ_wcallV rfl rfl rfl rfl rfl rfl rfl rfl rfl tx50w (fun w _ => follows_w _ _ w) ?_
        refine LQ_wv rfl rfl rfl rfl rfl rfl (V_not rfl rfl rfl) ?_
        first | refine LQ_v rfl rfl rfl (V_pickT rfl rfl rfl) ?_ | refine LQ_v rfl rfl rfl (V_pickF rfl rfl rfl) ?_
        refine LQ_nil ?_
        change J _ _ _ _
        refine J_cond rfl (fun h4 => ?_) (fun h4 => ?_)
        ·
          first | (have h4 := h4; rw [decide_eq_true_eq] at h4) | (have h4 := h4; rw [decide_eq_false_iff_not] at h4) | skip
          refine J_seq ?_
          refine J_region ?_
          refine L_v rfl rfl rfl (V_assign rfl rfl) ?_
          refine L_nil ?_
          change J _ _ _ _
          refine J_ret ?_
          change Kret _ _ _ Exit.ret _
          refine ret1 rfl rfl (RV_t rfl) ?_
          have hh : isH l = false := isH_stop (i := i) (by omega) (by rw [← nextV_r (by simpa using h2) (by omega)]; exact (nbT h4).symm)
          exact fun w' h => ⟨by rw [hh], h.fr⟩
        ·
          first | (have h4 := h4; rw [decide_eq_true_eq] at h4) | (have h4 := h4; rw [decide_eq_false_iff_not] at h4) | skip
          refine J_skip ?_
          change J _ _ _ _
          refine J_region ?_
          refine L_v rfl rfl rfl (V_move rfl rfl) ?_
          refine L_v rfl rfl rfl (V_move rfl rfl) ?_
          refine L_v rfl rfl rfl (V_indexC rfl rfl rfl Tryd.underlying23 sz79w (fun w hw => SlC.later hw rfl hu) (by omega) (by omega)) ?_
          refine L_v rfl rfl rfl (V_loadCN (vs := vc (l.getD i v0)) rfl rfl Tryd.underlying79 rfl (szd sz79w (by first | rfl | (simp [dg_length, zd_length, *]; done))) (fun w hw => SlC.later hw rfl hu) (Nat.zero_lt_succ _) (vcs_v (by omega))) ?_
          refine L_storeW 0 rfl rfl rfl rfl rfl rfl (szd sz79w (by first | rfl | (simp [dg_length, zd_length, *]; done))) (vc_one _) (by first | rfl | (simp [dg_length, zd_length, *]; done)) ?_
          refine L_nil ?_
          change J _ _ _ _
          refine J_region ?_
          refine L_v rfl rfl rfl (V_move rfl rfl) ?_
          refine L_v rfl rfl rfl (V_add rfl rfl rfl (by first | exact Go.IntWalk.i64_in _ (by omega) | rfl)) ?_
          refine L_v rfl rfl rfl (V_assign rfl rfl) ?_
          refine L_nil ?_
          have h9 := take_v (l := l) (i := i) (by omega)
          exact ⟨i + 1, ⟨by omega, by rw [fromV_step (by omega), hok, ← nextV_r (by simpa using h2) (by omega)]; exact nbF h4⟩, by omega, ⟨rfl, rfl, rfl, trivial⟩, (by rw [h9, lastV_app]; exact List.Sublist.refl _), fun f hf => hf, rfl⟩
  ·
    first | (have h1 := h1; rw [decide_eq_true_eq] at h1) | (have h1 := h1; rw [decide_eq_false_iff_not] at h1) | skip
    refine J_exit ?_
    change J _ _ _ _
    refine J_seq ?_
    refine J_region ?_
    refine L_v rfl rfl rfl (V_move rfl rfl) ?_
    refine L_v rfl rfl rfl (V_len rfl rfl Tryd.underlying23 rfl) ?_
    refine L_v rfl rfl rfl (V_leq rfl rfl rfl (by first | exact decide_eq_true (by omega) | exact decide_eq_false (by omega) | rfl)) ?_
    refine L_v rfl rfl rfl (V_assign rfl rfl) ?_
    refine L_nil ?_
    change J _ _ _ _
    refine J_ret ?_
    change Kret _ _ _ Exit.ret _
    refine ret1 rfl rfl (RV_t rfl) ?_
    have hh : isH l = decide ((n : Int) ≤ 16) := by
      unfold isH
      obtain rfl : i = n := by omega
      rw [List.take_of_length_le (by omega)] at hok
      rw [hok, Bool.and_true, hl]
      exact decide_eq_decide.2 (by omega)
    exact fun w' h => ⟨by rw [hh], h.fr⟩

end Go.Proofs.YtfdmjjhgdbpfeaaDoor

/- What the functions of layer 7 that make lists come to. -/
set_option linter.unusedVariables false
set_option linter.unusedSimpArgs false
set_option maxRecDepth 100000
namespace Go.Proofs.YtfdmjjhgdbpfeaaDoor
open Go.Sx
theorem may_b {v : Ver} {b : Bool} (h : mayV v = b) (w : World) : Calls Tryd.prog 45 #[.agg (vc v).toArray] w fun e w' => e = .returned (.bool b) ∧ Fr [] w w' := h ▸ may_w v w
theorem rmay_b {v : Ver} {b : Bool} (h : mayV v = b) (w : World) : Calls Tryd.prog 49 #[.agg (vc v).toArray] w fun e w' => e = .returned (.bool b) ∧ Fr [] w w' := h ▸ rmay_w v w
theorem open_b {v : Ver} {b : Bool} (h : openV v = b) (w : World) : Calls Tryd.prog 46 #[.agg (vc v).toArray] w fun e w' => e = .returned (.bool b) ∧ Fr [] w w' := h ▸ open_w v w
theorem check_t (a : Option Addr) (n c : Nat) (l : List Ver) (w : World) (hl : l.length = n) (hu : SlC 3 w (.slice a n c) n (vcs l)) (hn : n ≤ 1048576) (hcn : n ≤ c) (h : isH l = true) : Calls Tryd.prog 19 #[.slice a n c] w fun e w' => e = .returned (.int .i64 0) ∧ Fr [] w w' := by
  have := check_w a n c l w hl hu hn hcn
  rwa [if_pos h] at this
theorem ish_b (a : Option Addr) (n c : Nat) (l : List Ver) (w : World) (hl : l.length = n) (hu : SlC 3 w (.slice a n c) n (vcs l)) (hn : n ≤ 1048576) {b : Bool} (h : isH l = b) : Calls Tryd.prog 23 #[.slice a n c] w fun e w' => e = .returned (.bool b) ∧ Fr [] w w' := h ▸ ish_w a n c l w hl hu hn
theorem memE (x : Nat × Obj) (A : Mem) : [x] ++ A = [x] ++ (A ++ []) := by simp
theorem if50 {b : Bool} (h : (if b = true then (0 : Int) else 50) ≠ 0) : b = false := by cases b; rfl; exact absurd rfl h
theorem if0 {b : Bool} (h : ¬ (if b = true then (0 : Int) else 50) ≠ 0) : b = true := by
  cases b
  · exact absurd (by decide) h
  · rfl
theorem sz3x : (Tryd.prog.info? 3).map (·.size) = some 1 := by kernel_rfl
theorem sz79x : (Tryd.prog.info? 79).map (·.size) = some 3 := by kernel_rfl
theorem tx23x : Txt Tryd.prog 23 := txt_of Tryd.func23 rfl (by kernel_rfl)

theorem rat_w (a : Option Addr) (n c : Nat) (l : List Ver) (w : World) (hl : l.length = n) (hu : SlC 3 w (.slice a n c) n (vcs l)) (hn : n ≤ 1048576) (ep : Int) :
    Calls Tryd.prog 24 #[.slice a n c, .int .i64 ep] w fun e w' => RetO 79 3 w (vcs (atV l ep)) (atV l ep).length id e w' := by
  refine calls_of (args := [.slice a n c, .int .i64 ep]) ([]) ([]) ([]) Tryd.func24 rfl rfl (okW0 _ _ _ _) ?_
  refine J_seq ?_
  refine J_region ?_
  refine L_v rfl rfl rfl (V_assign rfl rfl) ?_
  refine L_nil ?_
  change J _ _ _ _
  refine J_seq ?_
  refine J_region ?_
  refine L_v rfl rfl rfl (V_assign rfl rfl) ?_
  refine L_nil ?_
  change J _ _ _ _
  refine J_seq ?_
  refine J_seq ?_
  refine J_region ?_
  refine L_v rfl rfl rfl (V_move rfl rfl) ?_
  refine L_callV rfl rfl rfl rfl rfl rfl tx23x (fun w hw => ish_w _ _ _ l w hl (SlC.later hw rfl hu) hn) ?_
  refine L_v rfl rfl rfl (V_not rfl rfl rfl) ?_
  refine L_nil ?_
  change J _ _ _ _
  refine J_cond rfl (fun h1 => ?_) (fun h1 => ?_)
  ·
    first | (have h1 := h1; rw [decide_eq_true_eq] at h1) | (have h1 := h1; rw [decide_eq_false_iff_not] at h1) | skip
    refine J_seq ?_
    refine J_region ?_
    refine L_v rfl rfl rfl (V_move rfl rfl) ?_
    refine L_v rfl rfl rfl (V_assign rfl rfl) ?_
    refine L_nil ?_
    change J _ _ _ _
    refine J_ret ?_
    change Kret _ _ _ Exit.ret _
    refine ret1 rfl rfl (RV_t rfl) ?_
    have h9 : atV l ep = [] := by unfold atV; rw [nbT h1]; rfl
    exact fun w' h => by rw [h9]; exact RetO.nil h rfl rfl rfl
  ·
    first | (have h1 := h1; rw [decide_eq_true_eq] at h1) | (have h1 := h1; rw [decide_eq_false_iff_not] at h1) | skip
    have hh := nbF h1
    refine J_skip ?_
    change J _ _ _ _
    refine J_seq ?_
    refine J_seq ?_
    refine J_region ?_
    refine L_v rfl rfl rfl (V_assign rfl rfl) ?_
    refine L_nil ?_
    change J _ _ _ _
    refine J_block ?_
    refine J_loop (X := Nat × OwnR) (fun x => { env := [(0, .slice a n c), (1, .int .i64 ep), (5, ownV x.2 x.1), (6, .int .i64 (x.1 : Int))], mem := ownM 79 x.2 (vcs (l.take x.1)) }) (fun x => x.1 ≤ n ∧ x.1 ≤ cntV l ep ∧ OwnC 3 x.2 x.1 (vcs (l.take x.1))) (fun x => n - x.1) (0, none) ⟨Nat.zero_le _, Nat.zero_le _, ⟨rfl, rfl⟩⟩ ⟨⟨rfl, rfl, rfl, rfl, trivial⟩, List.Sublist.refl _, fun f hf => hf, rfl⟩ ?_
    rintro ⟨i, q⟩ ⟨hi, hk, hq⟩
    simp only at hi hk hq ⊢
    refine J_seq ?_
    refine J_seq ?_
    refine J_region ?_
    refine L_v rfl rfl rfl (V_move rfl rfl) ?_
    refine L_v rfl rfl rfl (V_move rfl rfl) ?_
    refine L_v rfl rfl rfl (V_len rfl rfl Tryd.underlying23 rfl) ?_
    refine L_v rfl rfl rfl (V_lss rfl rfl rfl (by first | exact decide_eq_true (by omega) | exact decide_eq_false (by omega) | rfl)) ?_
    refine L_v rfl rfl rfl (V_move rfl rfl) ?_
    refine L_split 15 rfl (fun h2 => ?_) (fun h2 => ?_)
    ·
      first | (have h2 := h2; rw [decide_eq_true_eq] at h2) | (have h2 := h2; rw [decide_eq_false_iff_not] at h2) | skip
      refine L_wv rfl rfl rfl rfl rfl rfl (V_move rfl rfl) ?_
      refine L_wv rfl rfl rfl rfl rfl rfl (V_move rfl rfl) ?_
      refine L_wv rfl rfl rfl rfl rfl rfl (V_indexC rfl rfl rfl Tryd.underlying23 sz79x (fun w hw => SlC.later hw rfl hu) (by omega) (by omega)) ?_
      refine L_wv rfl rfl rfl rfl rfl rfl (V_fieldC rfl rfl (fun w hw => (let ⟨b, o, e, _⟩ := SlC.cell (SlC.later hw rfl hu) (vcs_e (l := l) (i := i) (by omega)); ⟨b, o, e⟩)) Tryd.underlying79 rfl sz3x rfl) ?_
      refine L_wv rfl rfl rfl rfl rfl rfl (V_loadC rfl rfl Tryd.underlying3 rfl (fun w hw => SlC.later hw rfl hu) (vcs_e (by omega))) ?_
      refine L_wv rfl rfl rfl rfl rfl rfl (V_move rfl rfl) ?_
      refine L_wv rfl rfl rfl rfl rfl rfl (V_leq rfl rfl rfl (by first | exact decide_eq_true (by omega) | exact decide_eq_false (by omega) | rfl)) ?_
      first | refine L_v rfl rfl rfl (V_pickT rfl rfl rfl) ?_ | refine L_v rfl rfl rfl (V_pickF rfl rfl rfl) ?_
      refine L_nil ?_
      change J _ _ _ _
      refine J_cond rfl (fun h3 => ?_) (fun h3 => ?_)
      ·
        first | (have h3 := h3; rw [decide_eq_true_eq] at h3) | (have h3 := h3; rw [decide_eq_false_iff_not] at h3) | skip
        refine J_skip ?_
        change J _ _ _ _
        refine J_seq ?_
        refine J_block ?_
        refine J_region ?_
        refine L_v rfl rfl rfl (V_move rfl rfl) ?_
        refine L_v rfl rfl rfl (V_move rfl rfl) ?_
        refine L_v rfl rfl rfl (V_move rfl rfl) ?_
        refine L_v rfl rfl rfl (V_indexC rfl rfl rfl Tryd.underlying23 sz79x (fun w hw => SlC.later hw rfl hu) (by omega) (by omega)) ?_
        refine L_v rfl rfl rfl (V_loadCN (vs := vc (l.getD i v0)) rfl rfl Tryd.underlying79 rfl (szd sz79x (by first | rfl | (simp [dg_length, zd_length, *]; done))) (fun w hw => SlC.later hw rfl hu) (Nat.zero_lt_succ _) (vcs_v (by omega))) ?_
        refine L_buildSlice (vs := [(0, .agg (vc (l.getD i v0)).toArray)]) (l := vc (l.getD i v0)) rfl rfl rfl rfl rfl (bsV _) (fun b1 => ?_)
        refine L_appN [] [(b1, row 79 (vc (l.getD i v0)))] q (vcs (l.take i)) (n := i) (m := 1) (n' := i + 1) (ks' := vcs (l.take (i + 1))) rfl rfl rfl rfl rfl Tryd.underlying23 elv rfl hq (fun w hw => SlC.src Tryd.underlying23 (SlC.in hw (ks := vc (l.getD i v0)) (r := []) (fz := (0, 0)) (by first | exact List.mem_append_right _ (List.mem_singleton.2 rfl) | exact List.mem_append_left _ (List.mem_append_right _ (List.mem_singleton.2 rfl))) rfl 1) (vc_one _)) rfl (by rw [take_v (by omega), vcs_app, vcs_one]) (by omega) (by omega) (fun q' hq' => ?_)
        refine L_v rfl rfl rfl (V_assign rfl rfl) ?_
        refine L_nil ?_
        change J _ _ _ _
        refine J_region ?_
        refine L_v rfl rfl rfl (V_move rfl rfl) ?_
        refine L_v rfl rfl rfl (V_add rfl rfl rfl (by first | exact Go.IntWalk.i64_in _ (by omega) | rfl)) ?_
        refine L_v rfl rfl rfl (V_assign rfl rfl) ?_
        refine L_nil ?_
        exact ⟨(i + 1, q'), ⟨by show i + 1 ≤ n; omega, cnt_go hk (by omega) (by omega), hq'⟩, by show n - (i + 1) < n - i; omega, ⟨rfl, rfl, rfl, rfl, trivial⟩, List.sublist_append_left _ _, fun f hf => hf, rfl⟩
      ·
        first | (have h3 := h3; rw [decide_eq_true_eq] at h3) | (have h3 := h3; rw [decide_eq_false_iff_not] at h3) | skip
        refine J_exit ?_
        change J _ _ _ _
        refine J_seq ?_
        refine J_region ?_
        refine L_v rfl rfl rfl (V_move rfl rfl) ?_
        refine L_v rfl rfl rfl (V_assign rfl rfl) ?_
        refine L_nil ?_
        change J _ _ _ _
        refine J_ret ?_
        change Kret _ _ _ Exit.ret _
        refine ret1 rfl rfl (RV_t rfl) ?_
        have hci := cnt_stop hk (by omega) (by omega)
        have h9 : atV l ep = l.take i := by rw [atV_cnt hh, hci]
        have h8 : (l.take i).length = i := by rw [List.length_take]; omega
        exact fun w' h => by rw [h9, h8]; exact RetO.of (q := q) (m1 := []) (m2 := []) h rfl hq rfl (List.append_nil _).symm
    ·
      first | (have h2 := h2; rw [decide_eq_true_eq] at h2) | (have h2 := h2; rw [decide_eq_false_iff_not] at h2) | skip
      refine L_skip rfl rfl rfl rfl rfl rfl rfl ?_
      refine L_skip rfl rfl rfl rfl rfl rfl rfl ?_
      refine L_skip rfl rfl rfl rfl rfl rfl rfl ?_
      refine L_skip rfl rfl rfl rfl rfl rfl rfl ?_
      refine L_skip rfl rfl rfl rfl rfl rfl rfl ?_
      refine L_skip rfl rfl rfl rfl rfl rfl rfl ?_
      refine L_skip rfl rfl rfl rfl rfl rfl rfl ?_
      first | refine L_v rfl rfl rfl (V_pickT rfl rfl rfl) ?_ | refine L_v rfl rfl rfl (V_pickF rfl rfl rfl) ?_
      refine L_nil ?_
      change J _ _ _ _
      refine J_false rfl ?_
      refine J_exit ?_
      change J _ _ _ _
      refine J_seq ?_
      refine J_region ?_
      refine L_v rfl rfl rfl (V_move rfl rfl) ?_
      refine L_v rfl rfl rfl (V_assign rfl rfl) ?_
      refine L_nil ?_
      change J _ _ _ _
      refine J_ret ?_
      change Kret _ _ _ Exit.ret _
      refine ret1 rfl rfl (RV_t rfl) ?_
      have hcl := cnt_le l ep
      have hci : cntV l ep = i := by omega
      have h9 : atV l ep = l.take i := by rw [atV_cnt hh, hci]
      have h8 : (l.take i).length = i := by rw [List.length_take]; omega
      exact fun w' h => by rw [h9, h8]; exact RetO.of (q := q) (m1 := []) (m2 := []) h rfl hq rfl (List.append_nil _).symm

end Go.Proofs.YtfdmjjhgdbpfeaaDoor

/- What the functions of layer 7 that put a history as bytes, and read one, come to. -/
set_option linter.unusedVariables false
set_option linter.unusedSimpArgs false
set_option maxRecDepth 100000
namespace Go.Proofs.YtfdmjjhgdbpfeaaDoor
open Go.Sx
theorem bdL0 (w : World) : (Instr.build 121 ([] : List (Nat × Value)).toArray).run Tryd.prog w = .ok (.agg [.slice none 0 0].toArray) w := by kernel_rfl
def putI (l : List Ver) (i : Nat) : List Int := grp l.length ++ encL (l.take i)
theorem putI_next {l : List Ver} {i : Nat} (h : i < l.length) : ((putI l i ++ grp (l.getD i v0).1) ++ grp (l.getD i v0).2.1) ++ (grp (l.getD i v0).2.2.size ++ bs (l.getD i v0).2.2) = putI l (i + 1) := by
  unfold putI
  rw [take_v h, encL_snoc]
  unfold encV
  simp only [List.append_assoc]
theorem putI_all (l : List Ver) : putI l l.length = putB l := by
  unfold putI putB
  rw [List.take_length]
theorem encL_len : ∀ (l : List Ver), (∀ v ∈ l, v.2.2.size ≤ 64) → (encL l).length ≤ l.length * 91
  | [], _ => by simp [encL]
  | v :: l, h => by
    have h1 := encL_len l (fun x hx => h x (List.mem_cons_of_mem _ hx))
    have h2 := h v (List.mem_cons_self ..)
    have g1 := grp_len v.1
    have g2 := grp_len v.2.1
    have g3 := grp_len v.2.2.size
    have e : encL (v :: l) = encV v ++ encL l := by simp [encL]
    rw [e, List.length_append, List.length_cons]
    unfold encV
    simp only [List.length_append, bs_length]
    omega
theorem putI_len {l : List Ver} (h : isH l = true) (i : Nat) : (putI l i).length ≤ 2000 := by
  have h1 := encL_len (l.take i) (fun v hv => mayV_key (fromV_may (isH_from h) v (List.mem_of_mem_take hv)))
  have h2 := isH_len h
  have h3 := grp_len l.length
  have h4 : (l.take i).length ≤ l.length := by rw [List.length_take]; omega
  unfold putI
  rw [List.length_append]
  omega
theorem putBytes_e (a : Option Addr) (n c : Nat) (l : List Int) (s : ByteArray) (w : World) (hu : SlB w (.slice a n c) l) (hn : n ≤ 1099511627776) (hcn : n ≤ c) (hs : s.size ≤ 65536) {L : List Int} {k : Nat} (hL : l ++ (grp s.size ++ bs s) = L) (hk : L.length = k) :
    Calls Tryd.prog 58 #[.slice a n c, .string s] w (RetB 5 w L k (fun s => .tuple #[s, .int .i64 0])) := by
  have h1 := putBytes_ok a n c l s w hu hn hcn hs
  have hl := hu.size
  rw [hL, show n + (grp s.size).length + s.size = k by rw [← hk, ← hL]; simp only [List.length_append, bs_length]; omega] at h1
  exact h1
theorem lcount_new {cx : Cx} {m : Mem} {fs : List Fact} {w : World} {b g : Nat} {p q : Obj} (h : OkW cx [(b, p), (g, q)] fs w) (hm : cx.mods = [b]) : cx.w0.heap.size ≤ g := by
  have hd := h.dis
  simp only [List.map_cons, List.map_nil, List.nodup_cons, List.mem_singleton] at hd
  rcases h.may g (by simp) with e | e
  · exact e
  · rw [hm, List.mem_singleton] at e
    exact absurd e.symm hd.1
theorem check_f (a : Option Addr) (n c : Nat) (l : List Ver) (w : World) (hl : l.length = n) (hu : SlC 3 w (.slice a n c) n (vcs l)) (hn : n ≤ 1048576) (hcn : n ≤ c) (h : isH l = false) : Calls Tryd.prog 19 #[.slice a n c] w fun e w' => e = .returned (.int .i64 50) ∧ Fr [] w w' := by
  have := check_w a n c l w hl hu hn hcn
  rwa [if_neg (by rw [h]; decide)] at this
theorem sz3a : (Tryd.prog.info? 3).map (·.size) = some 1 := by kernel_rfl
theorem sz9a : (Tryd.prog.info? 9).map (·.size) = some 1 := by kernel_rfl
theorem sz57a : (Tryd.prog.info? 57).map (·.size) = some 1 := by kernel_rfl
theorem sz77a : (Tryd.prog.info? 77).map (·.size) = some 1 := by kernel_rfl
theorem sz79a : (Tryd.prog.info? 79).map (·.size) = some 3 := by kernel_rfl
theorem tx19a : Txt Tryd.prog 19 := txt_of Tryd.func19 rfl (by kernel_rfl)
theorem tx57a : Txt Tryd.prog 57 := txt_of Tryd.func57 rfl (by kernel_rfl)
theorem tx58a : Txt Tryd.prog 58 := txt_of Tryd.func58 rfl (by kernel_rfl)
theorem tx69a : Txt Tryd.prog 69 := txt_of Tryd.func69 rfl (by kernel_rfl)
theorem z79a : (Tryd.prog.info? 79).bind (·.zero) = some (.agg (vc v0).toArray) := by kernel_rfl

theorem lcount_w (b : Nat) (a : Option Addr) (n c : Nat) (l : List Int) (m : Int) (w : World) (hb : w.heap[b]? = some (row 121 [.slice a n c])) (hu : SlB w (.slice a n c) l) (hn : n ≤ 1099511627776) (hcn : n ≤ c) (h0 : 0 ≤ m) (h1 : m ≤ 2147483647) :
    Calls Tryd.prog 57 #[.pointer (some ⟨b, 0, none⟩), .int .i64 m] w fun e w' => PutP 121 5 w b (l ++ grp m) (n + (grp m).length) e w' := by
  have hl := hu.size
  refine calls_of (args := [.pointer (some ⟨b, 0, none⟩), .int .i64 m]) ([b]) ([(b, row 121 [.slice a n c])]) ([factB (.slice a n c) l]) Tryd.func57 rfl rfl (okR hb hu) ?_
  refine J_region ?_
  refine L_v rfl rfl rfl (V_move rfl rfl) ?_
  refine L_v rfl rfl rfl (V_move rfl rfl) ?_
  refine L_v rfl rfl rfl (V_nilCheck rfl rfl) ?_
  refine L_v rfl rfl rfl (V_fieldAddr rfl rfl Tryd.underlying121 rfl sz57a rfl) ?_
  refine L_v rfl rfl rfl (V_load1 0 rfl rfl rfl Tryd.underlying57 rfl (by first | rfl | simp)) ?_
  refine L_v rfl rfl rfl (V_move rfl rfl) ?_
  refine L_callB rfl rfl rfl rfl rfl rfl tx69a (fun w hw => putCount_ok a n c l m w (fB hw 0 rfl) hn hcn h0 h1) (fun g1 r1 c1 hl1 hc1 hr1 => ?_)
  refine L_v rfl rfl rfl (V_move rfl rfl) ?_
  refine L_v rfl rfl rfl (V_extract rfl rfl rfl) ?_
  refine L_v rfl rfl rfl (V_extract rfl rfl rfl) ?_
  refine L_v rfl rfl rfl (V_nilCheck rfl rfl) ?_
  refine L_v rfl rfl rfl (V_fieldAddr rfl rfl Tryd.underlying121 rfl sz57a rfl) ?_
  refine L_store1 0 rfl rfl rfl rfl rfl rfl rfl sz57a (by first | exact Nat.zero_lt_succ _ | (simp only [dg_length, List.length_append, List.length_take, List.length_drop, zd_length]; omega) | omega) (by first | rfl | exact dg_set _ _ _) ?_
  refine L_nil ?_
  change Kret _ _ _ Exit.normal _
  refine Kret_normal ?_
  refine ret0 rfl rfl  ?_
  exact fun w' h => ⟨g1, r1, c1, rfl, h.fr, h.at (i := 0) rfl, lcount_new (m := []) h rfl, h.at (i := 1) rfl, hl1, hc1, hr1⟩

theorem lcount_e (b : Nat) (a : Option Addr) (n c : Nat) (l : List Int) (m : Int) (w : World) (hb : w.heap[b]? = some (row 121 [.slice a n c])) (hu : SlB w (.slice a n c) l) (hn : n ≤ 1099511627776) (hcn : n ≤ c) (h0 : 0 ≤ m) (h1 : m ≤ 2147483647) {L : List Int} {k : Nat} (hL : l ++ grp m = L) (hk : L.length = k) :
    Calls Tryd.prog 57 #[.pointer (some ⟨b, 0, none⟩), .int .i64 m] w (PutP 121 5 w b L k) := by
  have h2 := lcount_w b a n c l m w hb hu hn hcn h0 h1
  have hl := hu.size
  rw [hL, show n + (grp m).length = k by rw [← hk, ← hL, List.length_append]; omega] at h2
  exact h2
theorem putI_0 (l : List Ver) : [] ++ grp l.length = putI l 0 := by simp [putI, encL]

theorem put_no (a : Option Addr) (n c : Nat) (l : List Ver) (w : World) (hl : l.length = n) (hu : SlC 3 w (.slice a n c) n (vcs l)) (hn : n ≤ 1048576) (hcn : n ≤ c) (h : isH l = false) :
    Calls Tryd.prog 28 #[.slice a n c] w fun e w' => e = .returned (.tuple #[.slice none 0 0, .int .i64 50]) ∧ Fr [] w w' := by
  refine calls_of (args := [.slice a n c]) ([]) ([]) ([]) Tryd.func28 rfl rfl (okW0 _ _ _ _) ?_
  refine J_seq ?_
  refine J_region ?_
  refine L_v rfl rfl rfl (V_assign rfl rfl) ?_
  refine L_v rfl rfl rfl (V_assign rfl rfl) ?_
  refine L_nil ?_
  change J _ _ _ _
  refine J_seq ?_
  refine J_seq ?_
  refine J_region ?_
  refine L_v rfl rfl rfl (V_move rfl rfl) ?_
  refine L_callV rfl rfl rfl rfl rfl rfl tx19a (fun w hw => check_f _ _ _ l w hl (SlC.later hw rfl hu) hn hcn h) ?_
  refine L_v rfl rfl rfl (V_assign rfl rfl) ?_
  refine L_nil ?_
  change J _ _ _ _
  refine J_seq ?_
  refine J_region ?_
  refine L_v rfl rfl rfl (V_move rfl rfl) ?_
  refine L_v rfl rfl rfl (V_neq rfl rfl rfl (by first | exact decide_eq_true (by omega) | exact decide_eq_false (by omega) | rfl)) ?_
  refine L_nil ?_
  change J _ _ _ _
  refine J_true rfl ?_
  refine J_seq ?_
  refine J_region ?_
  refine L_v rfl rfl rfl (V_move rfl rfl) ?_
  refine L_v rfl rfl rfl (V_assign rfl rfl) ?_
  refine L_v rfl rfl rfl (V_assign rfl rfl) ?_
  refine L_nil ?_
  change J _ _ _ _
  refine J_ret ?_
  change Kret _ _ _ Exit.ret _
  refine ret2 rfl rfl (RV_t rfl) (RV_t rfl) ?_
  exact fun w' h => ⟨rfl, h.fr⟩

theorem put_ok (a : Option Addr) (n c0 : Nat) (l : List Ver) (w : World) (hl : l.length = n) (hu : SlC 3 w (.slice a n c0) n (vcs l)) (hn : n ≤ 1048576) (hcn : n ≤ c0) (h : isH l = true) :
    Calls Tryd.prog 28 #[.slice a n c0] w fun e w' => RetB 5 w (putB l) (putB l).length (fun s => .tuple #[s, .int .i64 0]) e w' := by
  have hlen := isH_len h
  refine calls_of (args := [.slice a n c0]) ([]) ([]) ([]) Tryd.func28 rfl rfl (okW0 _ _ _ _) ?_
  refine J_seq ?_
  refine J_region ?_
  refine L_v rfl rfl rfl (V_assign rfl rfl) ?_
  refine L_v rfl rfl rfl (V_assign rfl rfl) ?_
  refine L_nil ?_
  change J _ _ _ _
  refine J_seq ?_
  refine J_seq ?_
  refine J_region ?_
  refine L_v rfl rfl rfl (V_move rfl rfl) ?_
  refine L_callV rfl rfl rfl rfl rfl rfl tx19a (fun w hw => check_t _ _ _ l w hl (SlC.later hw rfl hu) hn hcn h) ?_
  refine L_v rfl rfl rfl (V_assign rfl rfl) ?_
  refine L_nil ?_
  change J _ _ _ _
  refine J_seq ?_
  refine J_region ?_
  refine L_v rfl rfl rfl (V_move rfl rfl) ?_
  refine L_v rfl rfl rfl (V_neq rfl rfl rfl (by first | exact decide_eq_true (by omega) | exact decide_eq_false (by omega) | rfl)) ?_
  refine L_nil ?_
  change J _ _ _ _
  refine J_false rfl ?_
  refine J_skip ?_
  change J _ _ _ _
  refine J_seq ?_
  refine J_region ?_
  refine L_v rfl rfl rfl (V_build (vs := []) rfl rfl bdL0) ?_
  refine L_box rfl rfl rfl rfl rfl (fun b0 => ?_)
  refine L_v rfl rfl rfl (V_assign rfl rfl) ?_
  refine L_nil ?_
  change J _ _ _ _
  refine J_seq ?_
  refine J_region ?_
  refine L_v rfl rfl rfl (V_move rfl rfl) ?_
  refine L_v rfl rfl rfl (V_makeFunc rfl rfl rfl) ?_
  refine L_v rfl rfl rfl (V_assign rfl rfl) ?_
  refine L_nil ?_
  change J _ _ _ _
  refine J_seq ?_
  refine J_region ?_
  refine L_v rfl rfl rfl (V_move rfl rfl) ?_
  refine L_v rfl rfl rfl (V_move rfl rfl) ?_
  refine L_v rfl rfl rfl (V_len rfl rfl Tryd.underlying23 rfl) ?_
  refine L_callX 0 rfl rfl rfl rfl rfl rfl tx57a rfl (fun w hw => lcount_e b0 none 0 0 [] n w (hw.at (i := 0) rfl) (SlB.nil _ _) (by omega) (Nat.le_refl _) (by omega) (by omega) (L := (putI l 0)) (by rw [← hl]; exact putI_0 l) rfl) (fun g1 r1 c1 hl1 hc1 hr1 => ?_)
  refine L_nil ?_
  change J _ _ _ _
  refine J_seq ?_
  refine J_seq ?_
  refine J_region ?_
  refine L_v rfl rfl rfl (V_move rfl rfl) ?_
  refine L_v rfl rfl rfl (V_len rfl rfl Tryd.underlying23 rfl) ?_
  refine L_v rfl rfl rfl (V_move rfl rfl) ?_
  refine L_nil ?_
  change J _ _ _ _
  refine J_block ?_
  refine J_loop (X := Nat × Nat × Nat × List Value) (fun x => { env := [(0, .slice a n c0), (5, .pointer (some ⟨b0, 0, none⟩)), (6, .func (.func 57) #[.pointer (some ⟨b0, 0, none⟩)] #[]), (22, .slice a n c0), (23, .int .i64 (n : Int)), (24, .int .i64 (x.1 : Int))], mem := [(b0, row 121 [.slice (some ⟨x.2.1, 0, none⟩) (putI l x.1).length x.2.2.1]), (x.2.1, row 5 (dg (putI l x.1) ++ x.2.2.2))] }) (fun x => x.1 ≤ n ∧ (putI l x.1).length ≤ x.2.2.1 ∧ x.2.2.2.length = x.2.2.1 - (putI l x.1).length) (fun x => n - x.1) (0, g1, c1, r1) ⟨Nat.zero_le _, hc1, hr1⟩ ⟨⟨rfl, rfl, rfl, rfl, rfl, rfl, trivial⟩, List.Sublist.refl _, fun f hf => hf, rfl⟩ ?_
  rintro ⟨i, g, c, r⟩ ⟨hi, hc, hr⟩
  simp only at hi hc hr ⊢
  refine J_seq ?_
  refine J_region ?_
  refine L_v rfl rfl rfl (V_lss rfl rfl rfl (by first | exact decide_eq_true (by omega) | exact decide_eq_false (by omega) | rfl)) ?_
  refine L_nil ?_
  change J _ _ _ _
  refine J_seq ?_
  refine J_cond rfl (fun h1 => ?_) (fun h1 => ?_)
  ·
    first | (have h1 := h1; rw [decide_eq_true_eq] at h1) | (have h1 := h1; rw [decide_eq_false_iff_not] at h1) | skip
    have hpl := putI_len h i
    have hmv := fromV_may (isH_from h) (l.getD i v0) (by rw [List.getD_eq_getElem?_getD, List.getElem?_eq_getElem (show i < l.length by omega)]; exact List.getElem_mem _)
    have hep := mayV_ep hmv
    have hkd := mayV_kind hmv
    have hky := mayV_key hmv
    have hg1 := grp_len (l.getD i v0).1
    have hg2 := grp_len (l.getD i v0).2.1
    have hla : (putI l i ++ grp (l.getD i v0).1).length = (putI l i).length + (grp (l.getD i v0).1).length := List.length_append
    have hlb : ((putI l i ++ grp (l.getD i v0).1) ++ grp (l.getD i v0).2.1).length = (putI l i).length + (grp (l.getD i v0).1).length + (grp (l.getD i v0).2.1).length := by rw [List.length_append, List.length_append]
    refine J_skip ?_
    change J _ _ _ _
    refine J_seq ?_
    refine J_block ?_
    refine J_seq ?_
    refine J_region ?_
    refine L_v rfl rfl rfl (V_indexC rfl rfl rfl Tryd.underlying23 sz79a (fun w hw => SlC.later hw rfl hu) (by omega) (by omega)) ?_
    refine L_v rfl rfl rfl (V_loadCN (vs := vc (l.getD i v0)) rfl rfl Tryd.underlying79 rfl (szd sz79a (by first | rfl | (simp [dg_length, zd_length, *]; done))) (fun w hw => SlC.later hw rfl hu) (Nat.zero_lt_succ _) (vcs_v (by omega))) ?_
    refine L_alloc rfl rfl rfl rfl z79a (fun b2 => ?_)
    refine L_storeW 2 rfl rfl rfl rfl rfl rfl (szd sz79a (by first | rfl | (simp [dg_length, zd_length, *]; done))) (vc_one _) (by first | rfl | (simp [dg_length, zd_length, *]; done)) ?_
    refine L_nil ?_
    change J _ _ _ _
    refine J_seq ?_
    refine J_region ?_
    refine L_v rfl rfl rfl (V_move rfl rfl) ?_
    refine L_v rfl rfl rfl (V_fieldAddr rfl rfl Tryd.underlying79 rfl sz3a rfl) ?_
    refine L_v rfl rfl rfl (V_load1 2 rfl rfl rfl Tryd.underlying3 rfl (by first | rfl | simp)) ?_
    refine L_callX 0 rfl rfl rfl rfl rfl rfl tx57a rfl (fun w hw => lcount_e b0 (some ⟨g, 0, none⟩) (putI l i).length c (putI l i) (l.getD i v0).1 w (hw.at (i := 0) rfl) (SlB.of_own hw (i := 1) (l := putI l i) rfl rfl c) (by omega) hc (by omega) (by omega) (L := (putI l i ++ grp (l.getD i v0).1)) rfl rfl) (fun g3 r3 c3 hl3 hc3 hr3 => ?_)
    refine L_nil ?_
    change J _ _ _ _
    refine J_seq ?_
    refine J_region ?_
    refine L_v rfl rfl rfl (V_move rfl rfl) ?_
    refine L_v rfl rfl rfl (V_fieldAddr rfl rfl Tryd.underlying79 rfl sz77a rfl) ?_
    refine L_v rfl rfl rfl (V_load1 2 rfl rfl rfl Tryd.underlying77 rfl (by first | rfl | simp)) ?_
    refine L_callX 0 rfl rfl rfl rfl rfl rfl tx57a rfl (fun w hw => lcount_e b0 (some ⟨g3, 0, none⟩) (putI l i ++ grp (l.getD i v0).1).length c3 (putI l i ++ grp (l.getD i v0).1) (l.getD i v0).2.1 w (hw.at (i := 0) rfl) (SlB.of_own hw (i := 3) (l := putI l i ++ grp (l.getD i v0).1) rfl rfl c3) (by omega) hc3 (by omega) (by omega) (L := ((putI l i ++ grp (l.getD i v0).1) ++ grp (l.getD i v0).2.1)) rfl rfl) (fun g4 r4 c4 hl4 hc4 hr4 => ?_)
    refine L_nil ?_
    change J _ _ _ _
    refine J_regionO (.pure 0 (.pure 1 (.pure 2 (.pure 3 (.pure 5 (.pure 6 (.one 4 (.one 7 (.pure 8 (.pure 9 (.pure 10 (.pure 11 (.pure 12 (.one 13 (.nil))))))))))))))) ([(b2, row 79 (vc (l.getD i v0)))]) _ (Pk.of_sub (List.Sublist.cons _ (List.Sublist.cons _ (List.Sublist.cons_cons _ (List.nil_sublist _))))) (fun f hf => hf) rfl rfl (by kernel_rfl) ?_
    refine LO_v rfl rfl rfl rfl (V_move rfl rfl) ?_
    refine LO_v rfl rfl rfl rfl (V_move rfl rfl) ?_
    refine LO_v rfl rfl rfl rfl (V_nilCheck rfl rfl) ?_
    refine LO_v rfl rfl rfl rfl (V_fieldAddr rfl rfl Tryd.underlying121 rfl sz57a rfl) ?_
    refine LO_v rfl rfl rfl rfl (V_fieldAddr rfl rfl Tryd.underlying79 rfl sz9a rfl) ?_
    refine LO_v rfl rfl rfl rfl (V_load1 0 rfl rfl rfl Tryd.underlying9 rfl rfl) ?_
    refine LO_q rfl rfl rfl rfl rfl (V_load1 0 rfl rfl rfl Tryd.underlying57 rfl rfl) (Pk.of_sub (List.Sublist.cons _ (List.Sublist.cons _ (List.Sublist.cons_cons _ (List.nil_sublist _))))) (fun f hf => hf) ?_
    refine LO_callB rfl rfl rfl rfl rfl rfl rfl rfl tx58a (fun w hw => putBytes_e (some ⟨g4, 0, none⟩) ((putI l i ++ grp (l.getD i v0).1) ++ grp (l.getD i v0).2.1).length c4 _ (l.getD i v0).2.2 w (SlB.of_own hw (i := 4) (l := (putI l i ++ grp (l.getD i v0).1) ++ grp (l.getD i v0).2.1) rfl rfl c4) (by omega) hc4 (by omega) (putI_next (by omega)) rfl) (Pk.of_sub (List.Sublist.cons _ (List.Sublist.cons _ (List.Sublist.cons_cons _ (List.nil_sublist _))))) (fun f hf => hf) (fun g5 r5 c5 hl5 hc5 hr5 => ?_)
    refine LO_v rfl rfl rfl rfl (V_move rfl rfl) ?_
    refine LO_v rfl rfl rfl rfl (V_extract rfl rfl rfl) ?_
    refine LO_v rfl rfl rfl rfl (V_extract rfl rfl rfl) ?_
    refine LO_v rfl rfl rfl rfl (V_nilCheck rfl rfl) ?_
    refine LO_v rfl rfl rfl rfl (V_fieldAddr rfl rfl Tryd.underlying121 rfl sz57a rfl) ?_
    refine LO_s rfl rfl rfl (S_store 0 (vs := [.slice (some ⟨g5, 0, none⟩) (putI l (i + 1)).length c5]) (l' := [.slice (some ⟨g5, 0, none⟩) (putI l (i + 1)).length c5]) rfl rfl rfl rfl rfl rfl sz57a (by simp [Value.oneCell']) (Nat.le_refl _) rfl ⟨Pk.of_sub (List.Sublist.cons _ (List.Sublist.cons _ (List.Sublist.cons_cons _ (List.nil_sublist _)))), fun f hf => hf, ?_⟩)
    refine LO_nil ?_
    change J _ _ _ _
    refine J_region ?_
    refine L_v rfl rfl rfl (V_add rfl rfl rfl (by first | exact Go.IntWalk.i64_in _ (by omega) | rfl)) ?_
    refine L_v rfl rfl rfl (V_move rfl rfl) ?_
    refine L_nil ?_
    exact ⟨(i + 1, g5, c5, r5), ⟨by show i + 1 ≤ n; omega, hc5, hr5⟩, by show n - (i + 1) < n - i; omega, ⟨rfl, rfl, rfl, rfl, rfl, rfl, trivial⟩, List.Sublist.cons_cons _ (List.Sublist.cons _ (List.Sublist.cons _ (List.Sublist.cons _ (List.Sublist.cons _ (List.Sublist.refl _))))), fun f hf => hf, rfl⟩
  ·
    first | (have h1 := h1; rw [decide_eq_true_eq] at h1) | (have h1 := h1; rw [decide_eq_false_iff_not] at h1) | skip
    have e9 : putI l i = putB l := by rw [show i = l.length by omega, putI_all]
    refine J_exit ?_
    change J _ _ _ _
    refine J_seq ?_
    refine J_region ?_
    refine L_v rfl rfl rfl (V_move rfl rfl) ?_
    refine L_v rfl rfl rfl (V_nilCheck rfl rfl) ?_
    refine L_v rfl rfl rfl (V_fieldAddr rfl rfl Tryd.underlying121 rfl sz57a rfl) ?_
    refine L_v rfl rfl rfl (V_load1 0 rfl rfl rfl Tryd.underlying57 rfl (by first | rfl | simp)) ?_
    refine L_v rfl rfl rfl (V_assign rfl rfl) ?_
    refine L_v rfl rfl rfl (V_assign rfl rfl) ?_
    refine L_nil ?_
    change J _ _ _ _
    refine J_ret ?_
    change Kret _ _ _ Exit.ret _
    refine ret2 rfl rfl (RV_t rfl) (RV_t rfl) ?_
    rw [← e9]
    exact fun w' h => RetB.of (l := putI l i) h rfl 1 rfl rfl rfl hc hr

end Go.Proofs.YtfdmjjhgdbpfeaaDoor

/- A history's digest; the reference's bytes; what the law comes to. -/
set_option linter.unusedVariables false
set_option linter.unusedSimpArgs false
set_option maxRecDepth 100000
namespace Go.Proofs.YtfdmjjhgdbpfeaaDoor
open Go.Sx
theorem bdD7 (w : World) : (Instr.build 26 ([] : List (Nat × Value)).toArray).run Tryd.prog w = .ok (.agg (dg zd).toArray) w := by kernel_rfl
theorem egD7 : Tryd.prog.eqGuardType Tryd.prog.depth 26 = false := by kernel_rfl
theorem encL_byt : ∀ (l : List Ver), (∀ v ∈ l, mayV v = true) → Byt (encL l)
  | [], _ => by intro x hx; cases hx
  | v :: l, h => by
    have h1 := encL_byt l (fun x hx => h x (List.mem_cons_of_mem _ hx))
    have h2 := h v (List.mem_cons_self ..)
    have h3 := mayV_ep h2
    have h4 := mayV_kind h2
    have h5 := mayV_key h2
    have e : encL (v :: l) = encV v ++ encL l := by simp [encL]
    rw [e]
    refine Byt.append ?_ h1
    unfold encV
    exact ((grp_byt (by omega) (by omega)).append (grp_byt (by omega) (by omega))).append ((grp_byt (by omega) (by omega)).append (bs_byt _))
theorem putB_byt {l : List Ver} (h : isH l = true) : Byt (putB l) := by
  have h1 := isH_len h
  unfold putB
  exact (grp_byt (by omega) (by omega)).append (encL_byt l (fromV_may (isH_from h)))
theorem putB_len {l : List Ver} (h : isH l = true) : (putB l).length ≤ 2000 := by
  rw [← putI_all]
  exact putI_len h _
theorem refB_e {s : ByteArray} (w : World) (h : s.size ≤ 65536) : Calls Tryd.prog 93 #[.string s] w (RetB 5 w (grp s.size ++ bs s) (grp s.size ++ bs s).length (fun s => .tuple #[s, .int .i64 0])) := refB_ok s w h
theorem sz3c : (Tryd.prog.info? 3).map (·.size) = some 1 := by kernel_rfl
theorem sz9c : (Tryd.prog.info? 9).map (·.size) = some 1 := by kernel_rfl
theorem sz26c : (Tryd.prog.info? 26).map (·.size) = some 32 := by kernel_rfl
theorem sz77c : (Tryd.prog.info? 77).map (·.size) = some 1 := by kernel_rfl
theorem sz79c : (Tryd.prog.info? 79).map (·.size) = some 3 := by kernel_rfl
theorem tx23c : Txt Tryd.prog 23 := txt_of Tryd.func23 rfl (by kernel_rfl)
theorem tx28c : Txt Tryd.prog 28 := txt_of Tryd.func28 rfl (by kernel_rfl)
theorem tx29c : Txt Tryd.prog 29 := txt_of Tryd.func29 rfl (by kernel_rfl)
theorem tx51c : Txt Tryd.prog 51 := txt_of Tryd.func51 rfl (by kernel_rfl)
theorem tx52c : Txt Tryd.prog 52 := txt_of Tryd.func52 rfl (by kernel_rfl)
theorem tx77c : Txt Tryd.prog 77 := txt_of Tryd.func77 rfl (by kernel_rfl)
theorem tx92c : Txt Tryd.prog 92 := txt_of Tryd.func92 rfl (by kernel_rfl)
theorem tx93c : Txt Tryd.prog 93 := txt_of Tryd.func93 rfl (by kernel_rfl)
theorem z26c : (Tryd.prog.info? 26).bind (·.zero) = some (.agg (dg zd).toArray) := by kernel_rfl

theorem rbytesV_w (a : Option Addr) (n c0 : Nat) (l : List Ver) (w : World) (hl : l.length = n) (hu : SlC 3 w (.slice a n c0) n (vcs l)) (hn : n ≤ 1048576) (hcn : n ≤ c0) (h : isH l = true) :
    Calls Tryd.prog 77 #[.slice a n c0] w fun e w' => RetB 5 w (putB l) (putB l).length id e w' := by
  have hlen := isH_len h
  refine calls_of (args := [.slice a n c0]) ([]) ([]) ([]) Tryd.func77 rfl rfl (okW0 _ _ _ _) ?_
  refine J_seq ?_
  refine J_region ?_
  refine L_v rfl rfl rfl (V_assign rfl rfl) ?_
  refine L_nil ?_
  change J _ _ _ _
  refine J_seq ?_
  refine J_region ?_
  refine L_v rfl rfl rfl (V_move rfl rfl) ?_
  refine L_v rfl rfl rfl (V_len rfl rfl Tryd.underlying23 rfl) ?_
  refine L_callB rfl rfl rfl rfl rfl rfl tx92c (fun w _ => grp_w n w (by omega) (by omega)) (fun g1 r1 c1 hl1 hc1 hr1 => ?_)
  refine L_v rfl rfl rfl (V_assign rfl rfl) ?_
  refine L_nil ?_
  change J _ _ _ _
  refine J_seq ?_
  refine J_seq ?_
  refine J_region ?_
  refine L_v rfl rfl rfl (V_assign rfl rfl) ?_
  refine L_nil ?_
  change J _ _ _ _
  refine J_block ?_
  have e0 : grp (n : Int) = putI l 0 := by rw [← hl]; exact putI_0 l
  refine J_loop (X := Nat × Nat × Nat × List Value) (fun x => { env := [(0, .slice a n c0), (3, .slice (some ⟨x.2.1, 0, none⟩) (putI l x.1).length x.2.2.1), (4, .int .i64 (x.1 : Int))], mem := [(x.2.1, row 5 (dg (putI l x.1) ++ x.2.2.2))] }) (fun x => x.1 ≤ n ∧ (putI l x.1).length ≤ x.2.2.1 ∧ x.2.2.2.length = x.2.2.1 - (putI l x.1).length) (fun x => n - x.1) (0, g1, c1, r1) ⟨Nat.zero_le _, by rw [← e0]; exact hc1, by rw [← e0]; exact hr1⟩ (by rw [e0]; exact ⟨⟨rfl, rfl, rfl, trivial⟩, List.Sublist.refl _, fun f hf => hf, rfl⟩) ?_
  rintro ⟨i, g, c, r⟩ ⟨hi, hc, hr⟩
  simp only at hi hc hr ⊢
  refine J_seq ?_
  refine J_seq ?_
  refine J_region ?_
  refine L_v rfl rfl rfl (V_move rfl rfl) ?_
  refine L_v rfl rfl rfl (V_move rfl rfl) ?_
  refine L_v rfl rfl rfl (V_len rfl rfl Tryd.underlying23 rfl) ?_
  refine L_v rfl rfl rfl (V_lss rfl rfl rfl (by first | exact decide_eq_true (by omega) | exact decide_eq_false (by omega) | rfl)) ?_
  refine L_nil ?_
  change J _ _ _ _
  refine J_cond rfl (fun h1 => ?_) (fun h1 => ?_)
  ·
    first | (have h1 := h1; rw [decide_eq_true_eq] at h1) | (have h1 := h1; rw [decide_eq_false_iff_not] at h1) | skip
    have hpl := putI_len h i
    have hmv := fromV_may (isH_from h) (l.getD i v0) (by rw [List.getD_eq_getElem?_getD, List.getElem?_eq_getElem (show i < l.length by omega)]; exact List.getElem_mem _)
    have hep := mayV_ep hmv
    have hkd := mayV_kind hmv
    have hky := mayV_key hmv
    have hg1 := grp_len (l.getD i v0).1
    have hg2 := grp_len (l.getD i v0).2.1
    have hla : (putI l i ++ grp (l.getD i v0).1).length = (putI l i).length + (grp (l.getD i v0).1).length := List.length_append
    have hlb : ((putI l i ++ grp (l.getD i v0).1) ++ grp (l.getD i v0).2.1).length = (putI l i).length + (grp (l.getD i v0).1).length + (grp (l.getD i v0).2.1).length := by rw [List.length_append, List.length_append]
    have hne : ((putI l i ++ grp (l.getD i v0).1) ++ grp (l.getD i v0).2.1).length + (grp (l.getD i v0).2.2.size ++ bs (l.getD i v0).2.2).length = (putI l (i + 1)).length := by rw [← putI_next (l := l) (i := i) (by omega)]; exact List.length_append.symm
    have hnx := putI_len h (i + 1)
    refine J_skip ?_
    change J _ _ _ _
    refine J_seq ?_
    refine J_block ?_
    refine J_seq ?_
    refine J_region ?_
    refine L_v rfl rfl rfl (V_move rfl rfl) ?_
    refine L_v rfl rfl rfl (V_move rfl rfl) ?_
    refine L_v rfl rfl rfl (V_indexC rfl rfl rfl Tryd.underlying23 sz79c (fun w hw => SlC.later hw rfl hu) (by omega) (by omega)) ?_
    refine L_v rfl rfl rfl (V_fieldC rfl rfl (fun w hw => (let ⟨b, o, e, _⟩ := SlC.cell (SlC.later hw rfl hu) (vcs_e (l := l) (i := i) (by omega)); ⟨b, o, e⟩)) Tryd.underlying79 rfl sz3c rfl) ?_
    refine L_v rfl rfl rfl (V_loadC rfl rfl Tryd.underlying3 rfl (fun w hw => SlC.later hw rfl hu) (vcs_e (by omega))) ?_
    refine L_callB rfl rfl rfl rfl rfl rfl tx92c (fun w _ => grp_w (l.getD i v0).1 w (by omega) (by omega)) (fun g2 r2 c2 hl2 hc2 hr2 => ?_)
    refine L_v rfl rfl rfl (V_assign rfl rfl) ?_
    refine L_nil ?_
    change J _ _ _ _
    refine J_seq ?_
    refine J_region ?_
    refine L_v rfl rfl rfl (V_move rfl rfl) ?_
    refine L_v rfl rfl rfl (V_move rfl rfl) ?_
    refine L_appO 0 (dg (putI l i)) r (n := (putI l i).length) (m := (grp (l.getD i v0).1).length) (n' := (putI l i ++ grp (l.getD i v0).1).length) (ks' := dg (putI l i ++ grp (l.getD i v0).1)) rfl rfl rfl rfl rfl Tryd.underlying57 el rfl (by rw [dg_length, Nat.mul_one]) (by rw [Nat.mul_one]; exact hr) hc (fun w hw => src_bytes' Tryd.underlying57 (SlB.of_own hw (i := 1) rfl hl2 _) hl2) (by first | exact List.length_append.symm | exact hne) (dg_append _ _).symm (by omega) (by omega) (fun g3 c3 r3 hc3 hr3' => ?_)
    have hr3 : r3.length = c3 - (putI l i ++ grp (l.getD i v0).1).length := by simpa using hr3'
    refine L_v rfl rfl rfl (V_assign rfl rfl) ?_
    refine L_nil ?_
    change J _ _ _ _
    refine J_seq ?_
    refine J_region ?_
    refine L_v rfl rfl rfl (V_move rfl rfl) ?_
    refine L_v rfl rfl rfl (V_move rfl rfl) ?_
    refine L_v rfl rfl rfl (V_indexC rfl rfl rfl Tryd.underlying23 sz79c (fun w hw => SlC.later hw rfl hu) (by omega) (by omega)) ?_
    refine L_v rfl rfl rfl (V_fieldC rfl rfl (fun w hw => (let ⟨b, o, e, _⟩ := SlC.cell (SlC.later hw rfl hu) (vcs_e (l := l) (i := i) (by omega)); ⟨b, o, e⟩)) Tryd.underlying79 rfl sz77c rfl) ?_
    refine L_v rfl rfl rfl (V_loadC rfl rfl Tryd.underlying77 rfl (fun w hw => SlC.later hw rfl hu) (vcs_k (by omega))) ?_
    refine L_callB rfl rfl rfl rfl rfl rfl tx92c (fun w _ => grp_w (l.getD i v0).2.1 w (by omega) (by omega)) (fun g4 r4 c4 hl4 hc4 hr4 => ?_)
    refine L_v rfl rfl rfl (V_assign rfl rfl) ?_
    refine L_nil ?_
    change J _ _ _ _
    refine J_seq ?_
    refine J_region ?_
    refine L_v rfl rfl rfl (V_move rfl rfl) ?_
    refine L_v rfl rfl rfl (V_move rfl rfl) ?_
    refine L_appO 0 (dg (putI l i ++ grp (l.getD i v0).1)) r3 (n := (putI l i ++ grp (l.getD i v0).1).length) (m := (grp (l.getD i v0).2.1).length) (n' := ((putI l i ++ grp (l.getD i v0).1) ++ grp (l.getD i v0).2.1).length) (ks' := dg ((putI l i ++ grp (l.getD i v0).1) ++ grp (l.getD i v0).2.1)) rfl rfl rfl rfl rfl Tryd.underlying57 el rfl (by rw [dg_length, Nat.mul_one]) (by rw [Nat.mul_one]; exact hr3) hc3 (fun w hw => src_bytes' Tryd.underlying57 (SlB.of_own hw (i := 2) rfl hl4 _) hl4) (by first | exact List.length_append.symm | exact hne) (dg_append _ _).symm (by omega) (by omega) (fun g5 c5 r5 hc5 hr5' => ?_)
    have hr5 : r5.length = c5 - ((putI l i ++ grp (l.getD i v0).1) ++ grp (l.getD i v0).2.1).length := by simpa using hr5'
    refine L_v rfl rfl rfl (V_assign rfl rfl) ?_
    refine L_nil ?_
    change J _ _ _ _
    refine J_seq ?_
    refine J_region ?_
    refine L_v rfl rfl rfl (V_move rfl rfl) ?_
    refine L_v rfl rfl rfl (V_move rfl rfl) ?_
    refine L_v rfl rfl rfl (V_indexC rfl rfl rfl Tryd.underlying23 sz79c (fun w hw => SlC.later hw rfl hu) (by omega) (by omega)) ?_
    refine L_v rfl rfl rfl (V_fieldC rfl rfl (fun w hw => (let ⟨b, o, e, _⟩ := SlC.cell (SlC.later hw rfl hu) (vcs_e (l := l) (i := i) (by omega)); ⟨b, o, e⟩)) Tryd.underlying79 rfl sz9c rfl) ?_
    refine L_v rfl rfl rfl (V_loadC rfl rfl Tryd.underlying9 rfl (fun w hw => SlC.later hw rfl hu) (vcs_s (by omega))) ?_
    refine L_callB rfl rfl rfl rfl rfl rfl tx93c (fun w _ => refB_e w (by omega)) (fun g6 r6 c6 hl6 hc6 hr6 => ?_)
    refine L_v rfl rfl rfl (V_move rfl rfl) ?_
    refine L_v rfl rfl rfl (V_extract rfl rfl rfl) ?_
    refine L_v rfl rfl rfl (V_extract rfl rfl rfl) ?_
    refine L_v rfl rfl rfl (V_assign rfl rfl) ?_
    refine L_v rfl rfl rfl (V_assign rfl rfl) ?_
    refine L_nil ?_
    change J _ _ _ _
    refine J_region ?_
    refine L_v rfl rfl rfl (V_move rfl rfl) ?_
    refine L_v rfl rfl rfl (V_move rfl rfl) ?_
    refine L_appO 0 (dg ((putI l i ++ grp (l.getD i v0).1) ++ grp (l.getD i v0).2.1)) r5 (n := ((putI l i ++ grp (l.getD i v0).1) ++ grp (l.getD i v0).2.1).length) (m := (grp (l.getD i v0).2.2.size ++ bs (l.getD i v0).2.2).length) (n' := (putI l (i + 1)).length) (ks' := dg (putI l (i + 1))) rfl rfl rfl rfl rfl Tryd.underlying57 el rfl (by rw [dg_length, Nat.mul_one]) (by rw [Nat.mul_one]; exact hr5) hc5 (fun w hw => src_bytes' Tryd.underlying57 (SlB.of_own hw (i := 3) rfl hl6 _) hl6) (by first | exact List.length_append.symm | exact hne) (by rw [← dg_append, putI_next (l := l) (i := i) (by omega)]) (by omega) (by omega) (fun g7 c7 r7 hc7 hr7' => ?_)
    have hr7 : r7.length = c7 - (putI l (i + 1)).length := by simpa using hr7'
    refine L_v rfl rfl rfl (V_assign rfl rfl) ?_
    refine L_nil ?_
    change J _ _ _ _
    refine J_region ?_
    refine L_v rfl rfl rfl (V_move rfl rfl) ?_
    refine L_v rfl rfl rfl (V_add rfl rfl rfl (by first | exact Go.IntWalk.i64_in _ (by omega) | rfl)) ?_
    refine L_v rfl rfl rfl (V_assign rfl rfl) ?_
    refine L_nil ?_
    exact ⟨(i + 1, g7, c7, r7), ⟨by show i + 1 ≤ n; omega, hc7, hr7⟩, by show n - (i + 1) < n - i; omega, ⟨rfl, rfl, rfl, trivial⟩, List.Sublist.cons_cons _ (List.nil_sublist _), fun f hf => hf, rfl⟩
  ·
    first | (have h1 := h1; rw [decide_eq_true_eq] at h1) | (have h1 := h1; rw [decide_eq_false_iff_not] at h1) | skip
    have e9 : putI l i = putB l := by rw [show i = l.length by omega, putI_all]
    refine J_exit ?_
    change J _ _ _ _
    refine J_seq ?_
    refine J_region ?_
    refine L_v rfl rfl rfl (V_move rfl rfl) ?_
    refine L_v rfl rfl rfl (V_assign rfl rfl) ?_
    refine L_nil ?_
    change J _ _ _ _
    refine J_ret ?_
    change Kret _ _ _ Exit.ret _
    refine ret1 rfl rfl (RV_t rfl) ?_
    rw [← e9]
    exact fun w' h => RetB.of (l := putI l i) h rfl 0 rfl rfl rfl hc hr

theorem rput_no (a : Option Addr) (n c : Nat) (l : List Ver) (w : World) (hl : l.length = n) (hu : SlC 3 w (.slice a n c) n (vcs l)) (hn : n ≤ 1048576) (hcn : n ≤ c) (h : isH l = false) :
    Calls Tryd.prog 51 #[.slice a n c] w fun e w' => e = .returned (.tuple #[.slice none 0 0, .int .i64 50]) ∧ Fr [] w w' := by
  refine calls_of (args := [.slice a n c]) ([]) ([]) ([]) Tryd.func51 rfl rfl (okW0 _ _ _ _) ?_
  refine J_seq ?_
  refine J_region ?_
  refine L_v rfl rfl rfl (V_assign rfl rfl) ?_
  refine L_v rfl rfl rfl (V_assign rfl rfl) ?_
  refine L_nil ?_
  change J _ _ _ _
  refine J_seq ?_
  refine J_seq ?_
  refine J_region ?_
  refine L_v rfl rfl rfl (V_move rfl rfl) ?_
  refine L_callV rfl rfl rfl rfl rfl rfl tx23c (fun w hw => ish_b _ _ _ l w hl (SlC.later hw rfl hu) (by omega) h) ?_
  refine L_v rfl rfl rfl (V_not rfl rfl rfl) ?_
  refine L_nil ?_
  change J _ _ _ _
  refine J_true rfl ?_
  refine J_seq ?_
  refine J_region ?_
  refine L_v rfl rfl rfl (V_assign rfl rfl) ?_
  refine L_v rfl rfl rfl (V_assign rfl rfl) ?_
  refine L_nil ?_
  change J _ _ _ _
  refine J_ret ?_
  change Kret _ _ _ Exit.ret _
  refine ret2 rfl rfl (RV_t rfl) (RV_t rfl) ?_
  exact fun w' h => ⟨rfl, h.fr⟩

theorem rput_ok (a : Option Addr) (n c : Nat) (l : List Ver) (w : World) (hl : l.length = n) (hu : SlC 3 w (.slice a n c) n (vcs l)) (hn : n ≤ 1048576) (hcn : n ≤ c) (h : isH l = true) :
    Calls Tryd.prog 51 #[.slice a n c] w fun e w' => RetB 5 w (putB l) (putB l).length (fun s => .tuple #[s, .int .i64 0]) e w' := by
  refine calls_of (args := [.slice a n c]) ([]) ([]) ([]) Tryd.func51 rfl rfl (okW0 _ _ _ _) ?_
  refine J_seq ?_
  refine J_region ?_
  refine L_v rfl rfl rfl (V_assign rfl rfl) ?_
  refine L_v rfl rfl rfl (V_assign rfl rfl) ?_
  refine L_nil ?_
  change J _ _ _ _
  refine J_seq ?_
  refine J_seq ?_
  refine J_region ?_
  refine L_v rfl rfl rfl (V_move rfl rfl) ?_
  refine L_callV rfl rfl rfl rfl rfl rfl tx23c (fun w hw => ish_b _ _ _ l w hl (SlC.later hw rfl hu) (by omega) h) ?_
  refine L_v rfl rfl rfl (V_not rfl rfl rfl) ?_
  refine L_nil ?_
  change J _ _ _ _
  refine J_false rfl ?_
  refine J_skip ?_
  change J _ _ _ _
  refine J_seq ?_
  refine J_region ?_
  refine L_v rfl rfl rfl (V_move rfl rfl) ?_
  refine L_callB rfl rfl rfl rfl rfl rfl tx77c (fun w hw => rbytesV_w a n c l w hl (SlC.later hw rfl hu) (by omega) hcn h) (fun g1 r1 c1 hl1 hc1 hr1 => ?_)
  refine L_v rfl rfl rfl (V_assign rfl rfl) ?_
  refine L_v rfl rfl rfl (V_assign rfl rfl) ?_
  refine L_nil ?_
  change J _ _ _ _
  refine J_ret ?_
  change Kret _ _ _ Exit.ret _
  refine ret2 rfl rfl (RV_t rfl) (RV_t rfl) ?_
  exact fun w' h => RetB.of (l := putB l) h rfl 0 rfl rfl rfl hc1 hr1

theorem vdig_no (a : Option Addr) (n c : Nat) (l : List Ver) (w : World) (hl : l.length = n) (hu : SlC 3 w (.slice a n c) n (vcs l)) (hn : n ≤ 1048576) (hcn : n ≤ c) (h : isH l = false) :
    Calls Tryd.prog 10 #[.slice a n c] w fun e w' => e = .returned (.tuple #[.agg (dg zd).toArray, .int .i64 50]) ∧ Fr [] w w' := by
  refine calls_of (args := [.slice a n c]) ([]) ([]) ([]) Tryd.func10 rfl rfl (okW0 _ _ _ _) ?_
  refine J_seq ?_
  refine J_region ?_
  refine L_alloc rfl rfl rfl rfl z26c (fun b0 => ?_)
  refine L_v rfl rfl rfl (V_assign rfl rfl) ?_
  refine L_nil ?_
  change J _ _ _ _
  refine J_seq ?_
  refine J_region ?_
  refine L_v rfl rfl rfl (V_move rfl rfl) ?_
  refine L_callV rfl rfl rfl rfl rfl rfl tx28c (fun w hw => put_no a n c l w hl (SlC.later hw rfl hu) (by omega) hcn h) ?_
  refine L_v rfl rfl rfl (V_move rfl rfl) ?_
  refine L_v rfl rfl rfl (V_extract rfl rfl rfl) ?_
  refine L_v rfl rfl rfl (V_extract rfl rfl rfl) ?_
  refine L_v rfl rfl rfl (V_assign rfl rfl) ?_
  refine L_v rfl rfl rfl (V_assign rfl rfl) ?_
  refine L_nil ?_
  change J _ _ _ _
  refine J_seq ?_
  refine J_seq ?_
  refine J_region ?_
  refine L_v rfl rfl rfl (V_move rfl rfl) ?_
  refine L_v rfl rfl rfl (V_neq rfl rfl rfl (by first | exact decide_eq_true (by omega) | exact decide_eq_false (by omega) | rfl)) ?_
  refine L_nil ?_
  change J _ _ _ _
  refine J_true rfl ?_
  refine J_seq ?_
  refine J_region ?_
  refine L_v rfl rfl rfl (V_build (vs := []) rfl rfl bdD7) ?_
  refine L_v rfl rfl rfl (V_move rfl rfl) ?_
  refine L_storeW 0 rfl rfl rfl rfl rfl rfl (szd sz26c (by first | rfl | (simp [dg_length, zd_length, shaP_len, *]; done))) (by first | exact vc_one _ | exact dg_one _) (by first | rfl | (simp [dg_length, zd_length, shaP_len, *]; done)) ?_
  refine L_v rfl rfl rfl (V_assign rfl rfl) ?_
  refine L_nil ?_
  change J _ _ _ _
  refine J_ret ?_
  change Kret _ _ _ Exit.ret _
  refine ret2 rfl rfl (RV_c 0 rfl rfl Tryd.underlying26 rfl (szd sz26c (by first | rfl | (simp [dg_length, zd_length, shaP_len, *]; done)))) (RV_t rfl) ?_
  exact fun w' h => ⟨rfl, h.fr⟩

theorem vdig_ok (a : Option Addr) (n c : Nat) (l : List Ver) (w : World) (hl : l.length = n) (hu : SlC 3 w (.slice a n c) n (vcs l)) (hn : n ≤ 1048576) (hcn : n ≤ c) (h : isH l = true) (hK : TabK KT 1 w)  :
    Calls Tryd.prog 10 #[.slice a n c] w fun e w' => e = .returned (.tuple #[.agg (dg (shaP (putB l))).toArray, .int .i64 0]) ∧ Fr [] w w' := by
  have hpl := putB_len h
  refine calls_of (args := [.slice a n c]) ([]) ([]) ([]) Tryd.func10 rfl rfl (okW0 _ _ _ _) ?_
  refine J_seq ?_
  refine J_region ?_
  refine L_alloc rfl rfl rfl rfl z26c (fun b0 => ?_)
  refine L_v rfl rfl rfl (V_assign rfl rfl) ?_
  refine L_nil ?_
  change J _ _ _ _
  refine J_seq ?_
  refine J_region ?_
  refine L_v rfl rfl rfl (V_move rfl rfl) ?_
  refine L_callB rfl rfl rfl rfl rfl rfl tx28c (fun w hw => put_ok a n c l w hl (SlC.later hw rfl hu) (by omega) hcn h) (fun g1 r1 c1 hl1 hc1 hr1 => ?_)
  refine L_v rfl rfl rfl (V_move rfl rfl) ?_
  refine L_v rfl rfl rfl (V_extract rfl rfl rfl) ?_
  refine L_v rfl rfl rfl (V_extract rfl rfl rfl) ?_
  refine L_v rfl rfl rfl (V_assign rfl rfl) ?_
  refine L_v rfl rfl rfl (V_assign rfl rfl) ?_
  refine L_nil ?_
  change J _ _ _ _
  refine J_seq ?_
  refine J_seq ?_
  refine J_region ?_
  refine L_v rfl rfl rfl (V_move rfl rfl) ?_
  refine L_v rfl rfl rfl (V_neq rfl rfl rfl (by first | exact decide_eq_true (by omega) | exact decide_eq_false (by omega) | rfl)) ?_
  refine L_nil ?_
  change J _ _ _ _
  refine J_false rfl ?_
  refine J_skip ?_
  change J _ _ _ _
  refine J_seq ?_
  refine J_region ?_
  refine L_v rfl rfl rfl (V_move rfl rfl) ?_
  refine L_callV rfl rfl rfl rfl rfl rfl tx29c (fun w hw => ssum_w (putB l) (some ⟨g1, 0, none⟩) (putB l).length c1 w (SlB.of_own hw (i := 1) (l := putB l) rfl rfl c1) (putB_byt h) hc1 (TabK.later hw (by simp) hK) (by omega)) ?_
  refine L_storeW 0 rfl rfl rfl rfl rfl rfl (szd sz26c (by first | rfl | (simp [dg_length, zd_length, shaP_len, *]; done))) (by first | exact vc_one _ | exact dg_one _) (by first | rfl | (simp [dg_length, zd_length, shaP_len, *]; done)) ?_
  refine L_v rfl rfl rfl (V_assign rfl rfl) ?_
  refine L_nil ?_
  change J _ _ _ _
  refine J_ret ?_
  change Kret _ _ _ Exit.ret _
  refine ret2 rfl rfl (RV_c 0 rfl rfl Tryd.underlying26 rfl (szd sz26c (by first | rfl | (simp [dg_length, zd_length, shaP_len, *]; done)))) (RV_t rfl) ?_
  exact fun w' h => ⟨rfl, h.fr⟩

theorem rvdig_no (a : Option Addr) (n c : Nat) (l : List Ver) (w : World) (hl : l.length = n) (hu : SlC 3 w (.slice a n c) n (vcs l)) (hn : n ≤ 1048576) (hcn : n ≤ c) (h : isH l = false) :
    Calls Tryd.prog 25 #[.slice a n c] w fun e w' => e = .returned (.tuple #[.agg (dg zd).toArray, .int .i64 50]) ∧ Fr [] w w' := by
  refine calls_of (args := [.slice a n c]) ([]) ([]) ([]) Tryd.func25 rfl rfl (okW0 _ _ _ _) ?_
  refine J_seq ?_
  refine J_region ?_
  refine L_alloc rfl rfl rfl rfl z26c (fun b0 => ?_)
  refine L_v rfl rfl rfl (V_assign rfl rfl) ?_
  refine L_nil ?_
  change J _ _ _ _
  refine J_seq ?_
  refine J_region ?_
  refine L_v rfl rfl rfl (V_move rfl rfl) ?_
  refine L_callV rfl rfl rfl rfl rfl rfl tx51c (fun w hw => rput_no a n c l w hl (SlC.later hw rfl hu) (by omega) hcn h) ?_
  refine L_v rfl rfl rfl (V_move rfl rfl) ?_
  refine L_v rfl rfl rfl (V_extract rfl rfl rfl) ?_
  refine L_v rfl rfl rfl (V_extract rfl rfl rfl) ?_
  refine L_v rfl rfl rfl (V_assign rfl rfl) ?_
  refine L_v rfl rfl rfl (V_assign rfl rfl) ?_
  refine L_nil ?_
  change J _ _ _ _
  refine J_seq ?_
  refine J_seq ?_
  refine J_region ?_
  refine L_v rfl rfl rfl (V_move rfl rfl) ?_
  refine L_v rfl rfl rfl (V_neq rfl rfl rfl (by first | exact decide_eq_true (by omega) | exact decide_eq_false (by omega) | rfl)) ?_
  refine L_nil ?_
  change J _ _ _ _
  refine J_true rfl ?_
  refine J_seq ?_
  refine J_region ?_
  refine L_v rfl rfl rfl (V_build (vs := []) rfl rfl bdD7) ?_
  refine L_v rfl rfl rfl (V_move rfl rfl) ?_
  refine L_storeW 0 rfl rfl rfl rfl rfl rfl (szd sz26c (by first | rfl | (simp [dg_length, zd_length, shaP_len, *]; done))) (by first | exact vc_one _ | exact dg_one _) (by first | rfl | (simp [dg_length, zd_length, shaP_len, *]; done)) ?_
  refine L_v rfl rfl rfl (V_assign rfl rfl) ?_
  refine L_nil ?_
  change J _ _ _ _
  refine J_ret ?_
  change Kret _ _ _ Exit.ret _
  refine ret2 rfl rfl (RV_c 0 rfl rfl Tryd.underlying26 rfl (szd sz26c (by first | rfl | (simp [dg_length, zd_length, shaP_len, *]; done)))) (RV_t rfl) ?_
  exact fun w' h => ⟨rfl, h.fr⟩

theorem rvdig_ok (a : Option Addr) (n c : Nat) (l : List Ver) (w : World) (hl : l.length = n) (hu : SlC 3 w (.slice a n c) n (vcs l)) (hn : n ≤ 1048576) (hcn : n ≤ c) (h : isH l = true) (hR : TabK KT 0 w) :
    Calls Tryd.prog 25 #[.slice a n c] w fun e w' => e = .returned (.tuple #[.agg (dg (shaP (putB l))).toArray, .int .i64 0]) ∧ Fr [] w w' := by
  have hpl := putB_len h
  refine calls_of (args := [.slice a n c]) ([]) ([]) ([]) Tryd.func25 rfl rfl (okW0 _ _ _ _) ?_
  refine J_seq ?_
  refine J_region ?_
  refine L_alloc rfl rfl rfl rfl z26c (fun b0 => ?_)
  refine L_v rfl rfl rfl (V_assign rfl rfl) ?_
  refine L_nil ?_
  change J _ _ _ _
  refine J_seq ?_
  refine J_region ?_
  refine L_v rfl rfl rfl (V_move rfl rfl) ?_
  refine L_callB rfl rfl rfl rfl rfl rfl tx51c (fun w hw => rput_ok a n c l w hl (SlC.later hw rfl hu) (by omega) hcn h) (fun g2 r2 c2 hl2 hc2 hr2 => ?_)
  refine L_v rfl rfl rfl (V_move rfl rfl) ?_
  refine L_v rfl rfl rfl (V_extract rfl rfl rfl) ?_
  refine L_v rfl rfl rfl (V_extract rfl rfl rfl) ?_
  refine L_v rfl rfl rfl (V_assign rfl rfl) ?_
  refine L_v rfl rfl rfl (V_assign rfl rfl) ?_
  refine L_nil ?_
  change J _ _ _ _
  refine J_seq ?_
  refine J_seq ?_
  refine J_region ?_
  refine L_v rfl rfl rfl (V_move rfl rfl) ?_
  refine L_v rfl rfl rfl (V_neq rfl rfl rfl (by first | exact decide_eq_true (by omega) | exact decide_eq_false (by omega) | rfl)) ?_
  refine L_nil ?_
  change J _ _ _ _
  refine J_false rfl ?_
  refine J_skip ?_
  change J _ _ _ _
  refine J_seq ?_
  refine J_region ?_
  refine L_v rfl rfl rfl (V_move rfl rfl) ?_
  refine L_callV rfl rfl rfl rfl rfl rfl tx52c (fun w hw => rsum_w (putB l) (some ⟨g2, 0, none⟩) (putB l).length c2 w (SlB.of_own hw (i := 1) (l := putB l) rfl rfl c2) (putB_byt h) (TabK.later hw (by simp) hR) (by omega)) ?_
  refine L_storeW 0 rfl rfl rfl rfl rfl rfl (szd sz26c (by first | rfl | (simp [dg_length, zd_length, shaP_len, *]; done))) (by first | exact vc_one _ | exact dg_one _) (by first | rfl | (simp [dg_length, zd_length, shaP_len, *]; done)) ?_
  refine L_v rfl rfl rfl (V_assign rfl rfl) ?_
  refine L_nil ?_
  change J _ _ _ _
  refine J_ret ?_
  change Kret _ _ _ Exit.ret _
  refine ret2 rfl rfl (RV_c 0 rfl rfl Tryd.underlying26 rfl (szd sz26c (by first | rfl | (simp [dg_length, zd_length, shaP_len, *]; done)))) (RV_t rfl) ?_
  exact fun w' h => ⟨rfl, h.fr⟩

end Go.Proofs.YtfdmjjhgdbpfeaaDoor

/- What the law comes to. -/
set_option linter.unusedVariables false
set_option linter.unusedSimpArgs false
set_option maxRecDepth 100000
namespace Go.Proofs.YtfdmjjhgdbpfeaaDoor
open Go.Sx
theorem sz26q : (Tryd.prog.info? 26).map (·.size) = some 32 := by kernel_rfl
theorem tx29q : Txt Tryd.prog 29 := txt_of Tryd.func29 rfl (by kernel_rfl)
theorem tx52q : Txt Tryd.prog 52 := txt_of Tryd.func52 rfl (by kernel_rfl)
theorem z26q : (Tryd.prog.info? 26).bind (·.zero) = some (.agg (dg zd).toArray) := by kernel_rfl

theorem of_w (s : ByteArray) (w : World) (hK : TabK KT 1 w) (hs : s.size ≤ 1099511626000) :
    Calls Tryd.prog 12 #[.string s] w fun e w' => e = .returned (.agg (dg (shaP (bs s))).toArray) ∧ Fr [] w w' := by
  refine calls_of (args := [.string s]) ([]) ([]) ([]) Tryd.func12 rfl rfl (okW0 _ _ _ _) ?_
  refine J_seq ?_
  refine J_region ?_
  refine L_alloc rfl rfl rfl rfl z26q (fun b0 => ?_)
  refine L_nil ?_
  change J _ _ _ _
  refine J_seq ?_
  refine J_region ?_
  refine L_v rfl rfl rfl (V_move rfl rfl) ?_
  refine L_toBytesC rfl rfl rfl rfl rfl Tryd.underlying9 Tryd.underlying57 Tryd.underlying5 (fun b1 c1 r1 z1 hc1 hr1 => ?_)
  refine L_callV rfl rfl rfl rfl rfl rfl tx29q (fun w1 hw => ssum_w (bs s) (some ⟨b1, 0, none⟩) s.size c1 w1 (SlB.of_own hw (i := 1) rfl (bs_length _) c1) (bs_byt s) hc1 (TabK.later hw (by simp) hK) (by rw [bs_length]; omega)) ?_
  refine L_storeW 0 rfl rfl rfl rfl rfl rfl (szd sz26q (by first | (rw [dg_length]; exact shaP_len _) | (rw [dg_length]; exact withV_length (by assumption) _ _) | (rw [dg_length, dg_length, shaP_len]; rfl) | (simp [dg_length, zd_length, withV_length, *]; done))) (dg_one _) (by first | (rw [dg_length]; exact shaP_len _) | (rw [dg_length]; exact withV_length (by assumption) _ _) | (rw [dg_length, dg_length, shaP_len]; rfl) | (simp [dg_length, zd_length, withV_length, *]; done)) ?_
  refine L_nil ?_
  change J _ _ _ _
  refine J_ret ?_
  change Kret _ _ _ Exit.ret _
  refine ret1 rfl rfl (RV_c 0 rfl rfl Tryd.underlying26 rfl (szd sz26q (by first | (rw [dg_length]; exact shaP_len _) | (rw [dg_length]; exact withV_length (by assumption) _ _) | (rw [dg_length, dg_length, shaP_len]; rfl) | (simp [dg_length, zd_length, withV_length, *]; done)))) ?_
  exact fun w' h => ⟨rfl, h.fr⟩

theorem rof_w (s : ByteArray) (w : World) (hK : TabK KT 0 w) (hs : s.size ≤ 1099511626000) :
    Calls Tryd.prog 27 #[.string s] w fun e w' => e = .returned (.agg (dg (shaP (bs s))).toArray) ∧ Fr [] w w' := by
  refine calls_of (args := [.string s]) ([]) ([]) ([]) Tryd.func27 rfl rfl (okW0 _ _ _ _) ?_
  refine J_seq ?_
  refine J_region ?_
  refine L_alloc rfl rfl rfl rfl z26q (fun b0 => ?_)
  refine L_nil ?_
  change J _ _ _ _
  refine J_seq ?_
  refine J_region ?_
  refine L_v rfl rfl rfl (V_move rfl rfl) ?_
  refine L_toBytesC rfl rfl rfl rfl rfl Tryd.underlying9 Tryd.underlying57 Tryd.underlying5 (fun b1 c1 r1 z1 hc1 hr1 => ?_)
  refine L_callV rfl rfl rfl rfl rfl rfl tx52q (fun w1 hw => rsum_w (bs s) (some ⟨b1, 0, none⟩) s.size c1 w1 (SlB.of_own hw (i := 1) rfl (bs_length _) c1) (bs_byt s) (TabK.later hw (by simp) hK) (by rw [bs_length]; omega)) ?_
  refine L_storeW 0 rfl rfl rfl rfl rfl rfl (szd sz26q (by first | (rw [dg_length]; exact shaP_len _) | (rw [dg_length]; exact withV_length (by assumption) _ _) | (rw [dg_length, dg_length, shaP_len]; rfl) | (simp [dg_length, zd_length, withV_length, *]; done))) (dg_one _) (by first | (rw [dg_length]; exact shaP_len _) | (rw [dg_length]; exact withV_length (by assumption) _ _) | (rw [dg_length, dg_length, shaP_len]; rfl) | (simp [dg_length, zd_length, withV_length, *]; done)) ?_
  refine L_nil ?_
  change J _ _ _ _
  refine J_ret ?_
  change Kret _ _ _ Exit.ret _
  refine ret1 rfl rfl (RV_c 0 rfl rfl Tryd.underlying26 rfl (szd sz26q (by first | (rw [dg_length]; exact shaP_len _) | (rw [dg_length]; exact withV_length (by assumption) _ _) | (rw [dg_length, dg_length, shaP_len]; rfl) | (simp [dg_length, zd_length, withV_length, *]; done)))) ?_
  exact fun w' h => ⟨rfl, h.fr⟩

end Go.Proofs.YtfdmjjhgdbpfeaaDoor

/- A reply is verified. -/
set_option linter.unusedVariables false
set_option linter.unusedSimpArgs false
set_option maxRecDepth 100000
namespace Go.Proofs.YtfdmjjhgdbpfeaaDoor
open Go.Sx
theorem vcs_rows (l : List Vr) : (l.map vrM).flatten = vcs l := by unfold vcs; rw [List.flatMap_def]; rfl
def chkS (key : ByteArray) (g : Sg) : Int := chk key g.1.1 (l32 g.1.2.1) (l32 g.1.2.2) (l32 g.2)
abbrev SgD (g : Sg) : Prop := DB g.1.2.1 ∧ DB g.1.2.2 ∧ DB g.2
theorem chk_m (key : ByteArray) (g : Sg) (w : World) (hB : SgD g) (hK : TabK KT 1 w) : Calls Tryd.prog 17 #[.string key, .agg (sgM g).toArray] w fun e w' => e = .returned (.int .i64 (chkS key g)) ∧ Fr [] w w' :=
  chk_w key g.1.1 (l32 g.1.2.1) (l32 g.1.2.2) (l32 g.2) w rfl rfl rfl hB.1 hB.2.1 hB.2.2 hK
theorem rchk_m (key : ByteArray) (g : Sg) (w : World) (hB : SgD g) (hR : TabK KT 0 w) : Calls Tryd.prog 22 #[.string key, .agg (sgM g).toArray] w fun e w' => e = .returned (.int .i64 (chkS key g)) ∧ Fr [] w w' :=
  rchk_w key g.1.1 (l32 g.1.2.1) (l32 g.1.2.2) (l32 g.2) w rfl rfl rfl hB.1 hB.2.1 hB.2.2 hR
def pathD (s : ByteArray) : Dg := shD (bs s)
theorem pathD_b (s : ByteArray) : DB (pathD s) := shD_byt _
theorem of_d (s : ByteArray) (w : World) (hK : TabK KT 1 w) (hs : s.size ≤ 1000000) : Calls Tryd.prog 12 #[.string s] w fun e w' => e = .returned (.agg (dgM (pathD s)).toArray) ∧ Fr [] w w' := by
  rw [show dgM (pathD s) = dg (shaP (bs s)) from by unfold dgM pathD; rw [l32_shD]]
  exact of_w s w hK (by omega)
theorem rof_d (s : ByteArray) (w : World) (hR : TabK KT 0 w) (hs : s.size ≤ 1000000) : Calls Tryd.prog 27 #[.string s] w fun e w' => e = .returned (.agg (dgM (pathD s)).toArray) ∧ Fr [] w w' := by
  rw [show dgM (pathD s) = dg (shaP (bs s)) from by unfold dgM pathD; rw [l32_shD]]
  exact rof_w s w hR (by omega)
def verD (l : List Vr) : Dg := shD (putB l)
/-- What the versions claim. -/
def clm (l : List Vr) : Cm := if 0 < l.length then (true, verD l) else cm0
theorem clm_b (l : List Vr) : DB (clm l).2 := by
  unfold clm
  split
  · exact shD_byt _
  · exact zd_byt
theorem vdig_d (l : List Vr) (s : Sl) (w : World) (hu : SlC 3 w (.slice s.1 l.length s.2) l.length (vcs l)) (hc : l.length ≤ s.2) (h : isH l = true) (hK : TabK KT 1 w) : Calls Tryd.prog 10 #[.slice s.1 l.length s.2] w fun e w' => e = .returned (.tuple #[.agg (dgM (verD l)).toArray, .int .i64 0]) ∧ Fr [] w w' := by
  rw [show dgM (verD l) = dg (shaP (putB l)) from by unfold dgM verD; rw [l32_shD]]
  exact vdig_ok s.1 l.length s.2 l w rfl hu (by have := isH_len h; omega) hc h hK
theorem rvdig_d (l : List Vr) (s : Sl) (w : World) (hu : SlC 3 w (.slice s.1 l.length s.2) l.length (vcs l)) (hc : l.length ≤ s.2) (h : isH l = true) (hR : TabK KT 0 w) : Calls Tryd.prog 25 #[.slice s.1 l.length s.2] w fun e w' => e = .returned (.tuple #[.agg (dgM (verD l)).toArray, .int .i64 0]) ∧ Fr [] w w' := by
  rw [show dgM (verD l) = dg (shaP (putB l)) from by unfold dgM verD; rw [l32_shD]]
  exact rvdig_ok s.1 l.length s.2 l w rfl hu (by have := isH_len h; omega) hc h hR
/-- What a reply is found. -/
def verE (key user : ByteArray) (x : Rp) : Int :=
  if chkS key x.head ≠ 0 then chkS key x.head else if isH x.vers = true ∧ cntV x.vers x.head.1.1 = x.vers.length then pchk x.head.1.2.1 (pathD user) (clm x.vers) x.pf else 50
/-- A reply's lists lie there, and its digests are octets. -/
structure RpW (w : World) (x : Rp) (v s : Sl) : Prop where
  fa : FA w (rpF x v s)
  cap : x.vers.length ≤ v.2
  sg : SgD x.head
  sb : ∀ f ∈ x.pf.sib, DB f
  p1 : DB x.pf.path
  p2 : DB x.pf.val
  n1 : x.vers.length ≤ 1048576
  n2 : x.pf.sib.length ≤ 1048576
theorem RpW.vs {w : World} {x : Rp} {v s : Sl} (h : FA w (rpF x v s)) : SlC 3 w (.slice v.1 x.vers.length v.2) x.vers.length (vcs x.vers) := vcs_rows x.vers ▸ h.l.1
theorem sz3pg : (Tryd.prog.info? 3).map (·.size) = some 1 := by kernel_rfl
theorem sz4pg : (Tryd.prog.info? 4).map (·.size) = some 1 := by kernel_rfl
theorem sz23pg : (Tryd.prog.info? 23).map (·.size) = some 1 := by kernel_rfl
theorem sz26pg : (Tryd.prog.info? 26).map (·.size) = some 32 := by kernel_rfl
theorem sz28pg : (Tryd.prog.info? 28).map (·.size) = some 66 := by kernel_rfl
theorem sz30pg : (Tryd.prog.info? 30).map (·.size) = some 65 := by kernel_rfl
theorem sz32pg : (Tryd.prog.info? 32).map (·.size) = some 97 := by kernel_rfl
theorem sz54pg : (Tryd.prog.info? 54).map (·.size) = some 33 := by kernel_rfl
theorem sz79pg : (Tryd.prog.info? 79).map (·.size) = some 3 := by kernel_rfl
theorem tx10pg : Txt Tryd.prog 10 := txt_of Tryd.func10 rfl (by kernel_rfl)
theorem tx12pg : Txt Tryd.prog 12 := txt_of Tryd.func12 rfl (by kernel_rfl)
theorem tx17pg : Txt Tryd.prog 17 := txt_of Tryd.func17 rfl (by kernel_rfl)
theorem tx18pg : Txt Tryd.prog 18 := txt_of Tryd.func18 rfl (by kernel_rfl)
theorem tx19pg : Txt Tryd.prog 19 := txt_of Tryd.func19 rfl (by kernel_rfl)
theorem tx20pg : Txt Tryd.prog 20 := txt_of Tryd.func20 rfl (by kernel_rfl)
theorem tx21pg : Txt Tryd.prog 21 := txt_of Tryd.func21 rfl (by kernel_rfl)
theorem tx47pg : Txt Tryd.prog 47 := txt_of Tryd.func47 rfl (by kernel_rfl)
theorem z54pg : (Tryd.prog.info? 54).bind (·.zero) = some (.agg (cmM cm0).toArray) := by kernel_rfl

theorem later_w (u : Vr) (x : Rp) (v s : Sl) (b : Nat) (w : World) (hb : w.heap[b]? = some (row 34 (rpM x v s))) :
    Calls Tryd.prog 18 #[.agg (vrM u).toArray, .pointer (some ⟨b, 0, none⟩)] w fun e w' => e = .returned (.bool (decide (x.head.1.1 < u.1))) ∧ Fr [] w w' := by
  refine calls_of (args := [.agg (vrM u).toArray, .pointer (some ⟨b, 0, none⟩)]) ([]) ([]) ([]) Tryd.func18 rfl rfl (okW0 _ _ _ _) ?_
  refine J_seq ?_
  refine J_region ?_
  refine L_box rfl rfl rfl rfl rfl (fun b0 => ?_)
  refine L_v rfl rfl rfl (V_assign rfl rfl) ?_
  refine L_nil ?_
  change J _ _ _ _
  refine J_seq ?_
  refine J_region ?_
  refine L_v rfl rfl rfl (V_fieldAddr rfl rfl Tryd.underlying79 rfl sz3pg rfl) ?_
  refine L_v rfl rfl rfl (V_load1 0 rfl rfl rfl Tryd.underlying3 rfl (by rfl)) ?_
  refine L_v rfl rfl rfl (V_fieldAddr rfl rfl Tryd.underlying34 rfl sz32pg rfl) ?_
  refine L_v rfl rfl rfl (V_fieldAddr rfl rfl Tryd.underlying32 rfl sz30pg rfl) ?_
  refine L_v rfl rfl rfl (V_fieldAddr rfl rfl Tryd.underlying30 rfl sz3pg rfl) ?_
  refine L_v rfl rfl rfl (V_loadF rfl rfl Tryd.underlying3 rfl (fun w1 hw => OkW.later hw rfl hb) rfl) ?_
  refine L_v rfl rfl rfl (V_gtr rfl rfl rfl rfl) ?_
  refine L_v rfl rfl rfl (V_assign rfl rfl) ?_
  refine L_nil ?_
  change J _ _ _ _
  refine J_ret ?_
  change Kret _ _ _ Exit.ret _
  refine ret1 rfl rfl (RV_t rfl) ?_
  exact fun w' h => ⟨rfl, h.fr⟩

theorem idx_w (a : Option Addr) (n c : Nat) (l : List Vr) (w : World) (hl : l.length = n) (hu : SlC 3 w (.slice a n c) n (vcs l)) (hn : n ≤ 1048576) (x : Rp) (v s : Sl) (b : Nat) (hb : w.heap[b]? = some (row 34 (rpM x v s))) :
    Calls Tryd.prog 47 #[.slice a n c, .func (.func 18) #[] #[.pointer (some ⟨b, 0, none⟩)]] w fun e w' => e = .returned (.int .i64 (if cntV l x.head.1.1 = n then -1 else (cntV l x.head.1.1 : Int))) ∧ Fr [] w w' := by
  refine calls_of (args := [.slice a n c, .func (.func 18) #[] #[.pointer (some ⟨b, 0, none⟩)]]) ([]) ([]) ([]) Tryd.func47 rfl rfl (okW0 _ _ _ _) ?_
  refine J_seq ?_
  refine J_region ?_
  refine L_v rfl rfl rfl (V_assign rfl rfl) ?_
  refine L_nil ?_
  change J _ _ _ _
  refine J_seq ?_
  refine J_seq ?_
  refine J_region ?_
  refine L_v rfl rfl rfl (V_move rfl rfl) ?_
  refine L_v rfl rfl rfl (V_len rfl rfl Tryd.underlying23 rfl) ?_
  refine L_v rfl rfl rfl (V_move rfl rfl) ?_
  refine L_nil ?_
  change J _ _ _ _
  refine J_block ?_
  refine J_loop (X := Nat) (fun i => { env := [(0, .slice a n c), (1, .func (.func 18) #[] #[.pointer (some ⟨b, 0, none⟩)]), (7, .int .i64 (n : Int)), (8, .int .i64 (i : Int))] }) (fun i => i ≤ n ∧ i ≤ cntV l x.head.1.1) (fun i => n - i) 0 ⟨Nat.zero_le _, Nat.zero_le _⟩ ⟨⟨rfl, rfl, rfl, rfl, trivial⟩, List.Sublist.refl _, fun f hf => hf, rfl⟩ ?_
  rintro i ⟨hi, hk⟩
  refine J_seq ?_
  refine J_region ?_
  refine L_v rfl rfl rfl (V_lss rfl rfl rfl (by first | exact decide_eq_true (by omega) | exact decide_eq_false (by omega) | rfl)) ?_
  refine L_nil ?_
  change J _ _ _ _
  refine J_seq ?_
  refine J_cond rfl (fun h1 => ?_) (fun h1 => ?_)
  ·
    first | (have h1 := of_decide_eq_true h1) | (have h1 := of_decide_eq_false h1) | skip
    refine J_skip ?_
    change J _ _ _ _
    refine J_seq ?_
    refine J_block ?_
    refine J_seq ?_
    refine J_region ?_
    refine L_v rfl rfl rfl (V_move rfl rfl) ?_
    refine L_v rfl rfl rfl (V_assign rfl rfl) ?_
    refine L_nil ?_
    change J _ _ _ _
    refine J_seq ?_
    refine J_region ?_
    refine L_v rfl rfl rfl (V_move rfl rfl) ?_
    refine L_v rfl rfl rfl (V_move rfl rfl) ?_
    refine L_v rfl rfl rfl (V_move rfl rfl) ?_
    refine L_v rfl rfl rfl (V_indexC rfl rfl rfl Tryd.underlying23 sz79pg (fun w hw => SlC.later hw rfl hu) (by omega) (by omega)) ?_
    refine L_v rfl rfl rfl (V_loadCN (vs := vc (l.getD i v0)) rfl rfl Tryd.underlying79 rfl (szd sz79pg (by kernel_rfl)) (fun w hw => SlC.later hw rfl hu) (Nat.zero_lt_succ _) (vcs_v (by omega))) ?_
    refine L_callV rfl rfl rfl rfl rfl rfl tx18pg (fun w1 hw => later_w (l.getD i v0) x v s b w1 (OkW.later hw rfl hb)) ?_
    refine L_nil ?_
    change J _ _ _ _
    refine J_cond rfl (fun h2 => ?_) (fun h2 => ?_)
    ·
      first | (have h2 := of_decide_eq_true h2) | (have h2 := of_decide_eq_false h2) | skip
      refine J_seq ?_
      refine J_region ?_
      refine L_v rfl rfl rfl (V_move rfl rfl) ?_
      refine L_v rfl rfl rfl (V_assign rfl rfl) ?_
      refine L_nil ?_
      change J _ _ _ _
      refine J_ret ?_
      change Kret _ _ _ Exit.ret _
      refine ret1 rfl rfl (RV_t rfl) ?_
      have h5 := cnt_stop hk (by omega) h2
      exact fun w' h => ⟨by rw [h5, if_neg (by omega)], h.fr⟩
    ·
      first | (have h2 := of_decide_eq_true h2) | (have h2 := of_decide_eq_false h2) | skip
      refine J_skip ?_
      change J _ _ _ _
      refine J_region ?_
      refine L_v rfl rfl rfl (V_add rfl rfl rfl (by first | exact Go.IntWalk.i64_in _ (by omega) | rfl)) ?_
      refine L_v rfl rfl rfl (V_move rfl rfl) ?_
      refine L_nil ?_
      exact ⟨i + 1, ⟨by omega, cnt_go hk (by omega) (by omega)⟩, by omega, ⟨rfl, rfl, rfl, rfl, trivial⟩, List.Sublist.refl _, fun f hf => hf, rfl⟩
  ·
    first | (have h1 := of_decide_eq_true h1) | (have h1 := of_decide_eq_false h1) | skip
    refine J_exit ?_
    change J _ _ _ _
    refine J_seq ?_
    refine J_region ?_
    refine L_v rfl rfl rfl (V_assign rfl rfl) ?_
    refine L_nil ?_
    change J _ _ _ _
    refine J_ret ?_
    change Kret _ _ _ Exit.ret _
    refine ret1 rfl rfl (RV_t rfl) ?_
    have h6 := cnt_le l x.head.1.1
    exact fun w' h => ⟨by rw [if_pos (by omega)], h.fr⟩

theorem cont_w (a : Option Addr) (n c : Nat) (l : List Vr) (w : World) (hl : l.length = n) (hu : SlC 3 w (.slice a n c) n (vcs l)) (hn : n ≤ 1048576) (x : Rp) (v s : Sl) (b : Nat) (hb : w.heap[b]? = some (row 34 (rpM x v s))) :
    Calls Tryd.prog 20 #[.slice a n c, .func (.func 18) #[] #[.pointer (some ⟨b, 0, none⟩)]] w fun e w' => e = .returned (.bool (decide (cntV l x.head.1.1 ≠ n))) ∧ Fr [] w w' := by
  refine calls_of (args := [.slice a n c, .func (.func 18) #[] #[.pointer (some ⟨b, 0, none⟩)]]) ([]) ([]) ([]) Tryd.func20 rfl rfl (okW0 _ _ _ _) ?_
  refine J_seq ?_
  refine J_region ?_
  refine L_v rfl rfl rfl (V_assign rfl rfl) ?_
  refine L_nil ?_
  change J _ _ _ _
  refine J_seq ?_
  refine J_region ?_
  refine L_v rfl rfl rfl (V_move rfl rfl) ?_
  refine L_v rfl rfl rfl (V_move rfl rfl) ?_
  refine L_callV rfl rfl rfl rfl rfl rfl tx47pg (fun w1 hw => idx_w a n c l w1 hl (SlC.later hw rfl hu) hn x v s b (OkW.later hw rfl hb)) ?_
  refine L_v rfl rfl rfl (V_geq rfl rfl rfl rfl) ?_
  refine L_v rfl rfl rfl (V_assign rfl rfl) ?_
  refine L_nil ?_
  change J _ _ _ _
  refine J_ret ?_
  change Kret _ _ _ Exit.ret _
  refine ret1 rfl rfl (RV_t rfl) ?_
  exact fun w' h => ⟨congrArg (fun b => Ending.returned (Value.bool b)) (by rw [decide_eq_decide]; by_cases h9 : cntV l x.head.1.1 = n <;> simp [h9] <;> omega), h.fr⟩

theorem vno {l : List Vr} {n : Nat} {e : Int} (h : (decide ((if isH l = true then (0 : Int) else 50) ≠ 0) || decide (cntV l e ≠ n)) = true) : ¬ (isH l = true ∧ cntV l e = n) := by
  rintro ⟨h1, h2⟩
  rw [if_pos h1, decide_eq_false (by decide), decide_eq_false (by omega)] at h
  cases h
theorem vyes {l : List Vr} {n : Nat} {e : Int} (h : (decide ((if isH l = true then (0 : Int) else 50) ≠ 0) || decide (cntV l e ≠ n)) = false) : isH l = true ∧ cntV l e = n := by
  rw [Bool.or_eq_false_iff, decide_eq_false_iff_not, decide_eq_false_iff_not] at h
  refine ⟨?_, Classical.not_not.1 h.2⟩
  by_cases h1 : isH l = true
  · exact h1
  · exact absurd (by rw [if_neg h1]; decide) h.1
set_option maxHeartbeats 1000000 in
theorem verify_w (key user : ByteArray) (x : Rp) (v s : Sl) (w : World) (W : RpW w x v s) (hu : user.size ≤ 1000000) (hK : TabK KT 1 w) :
    Calls Tryd.prog 7 #[.string key, .string user, .agg (rpM x v s).toArray] w fun e w' => e = .returned (.int .i64 (verE key user x)) ∧ Fr [] w w' := by
  refine calls_of (args := [.string key, .string user, .agg (rpM x v s).toArray]) ([]) ([]) ([rpF x v s]) Tryd.func7 rfl rfl (okFW (.cons W.fa .nil)) ?_
  refine J_seq ?_
  refine J_region ?_
  refine L_box rfl rfl rfl rfl rfl (fun b0 => ?_)
  refine L_v rfl rfl rfl (V_assign rfl rfl) ?_
  refine L_nil ?_
  change J _ _ _ _
  refine J_seq ?_
  refine J_seq ?_
  refine J_region ?_
  refine L_v rfl rfl rfl (V_move rfl rfl) ?_
  refine L_v rfl rfl rfl (V_fieldAddr rfl rfl Tryd.underlying34 rfl sz32pg rfl) ?_
  refine L_v rfl rfl rfl (V_loadT 0 (vs := sgM x.head) rfl rfl rfl Tryd.underlying32 rfl sz32pg (by kernel_rfl) (by kernel_rfl)) ?_
  refine L_callV rfl rfl rfl rfl rfl rfl tx17pg (fun w1 hw => chk_m key x.head w1 W.sg (TabK.later hw (by simp) hK)) ?_
  refine L_v rfl rfl rfl (V_assign rfl rfl) ?_
  refine L_nil ?_
  change J _ _ _ _
  refine J_seq ?_
  refine J_region ?_
  refine L_v rfl rfl rfl (V_move rfl rfl) ?_
  refine L_v rfl rfl rfl (V_neq rfl rfl rfl rfl) ?_
  refine L_nil ?_
  change J _ _ _ _
  refine J_cond rfl (fun h1 => ?_) (fun h1 => ?_)
  ·
    first | (have h1 := of_decide_eq_true h1) | (have h1 := of_decide_eq_false h1) | skip
    refine J_seq ?_
    refine J_region ?_
    refine L_v rfl rfl rfl (V_move rfl rfl) ?_
    refine L_v rfl rfl rfl (V_assign rfl rfl) ?_
    refine L_nil ?_
    change J _ _ _ _
    refine J_ret ?_
    change Kret _ _ _ Exit.ret _
    refine ret1 rfl rfl (RV_t rfl) ?_
    exact fun w' h => ⟨congrArg (fun b => Ending.returned (Value.int .i64 b)) (by unfold verE; exact (if_pos h1).symm), h.fr⟩
  ·
    first | (have h1 := of_decide_eq_true h1) | (have h1 := of_decide_eq_false h1) | skip
    refine J_skip ?_
    change J _ _ _ _
    refine J_seq ?_
    refine J_region ?_
    refine L_v rfl rfl rfl (V_makeFunc rfl rfl rfl) ?_
    refine L_v rfl rfl rfl (V_assign rfl rfl) ?_
    refine L_nil ?_
    change J _ _ _ _
    refine J_seq ?_
    refine J_seq ?_
    refine J_region ?_
    refine L_v rfl rfl rfl (V_fieldAddr rfl rfl Tryd.underlying34 rfl sz23pg rfl) ?_
    refine L_v rfl rfl rfl (V_load1 0 rfl rfl rfl Tryd.underlying23 rfl (by rfl)) ?_
    refine L_callV rfl rfl rfl rfl rfl rfl tx19pg (fun w1 hw => check_w v.1 x.vers.length v.2 x.vers w1 rfl (RpW.vs (hw.fa 0 rfl)) W.n1 W.cap) ?_
    refine L_v rfl rfl rfl (V_neq rfl rfl rfl rfl) ?_
    refine L_v rfl rfl rfl (V_move rfl rfl) ?_
    apply L_or 4 22 27
    · rfl
    · rfl
    · rfl
    · rfl
    · rfl
    · rfl
    · rfl
    · kernel_rfl
    · intro hb2 _ _ hk2
      refine L_wv rfl rfl rfl rfl rfl rfl (V_fieldAddr rfl rfl Tryd.underlying34 rfl sz23pg rfl) ?_
      refine L_wv rfl rfl rfl rfl rfl rfl (V_load1 0 rfl rfl rfl Tryd.underlying23 rfl (by rfl)) ?_
      refine L_wv rfl rfl rfl rfl rfl rfl (V_move rfl rfl) ?_
      refine L_wcallV rfl rfl rfl rfl rfl rfl rfl rfl rfl tx20pg (fun w1 hw => cont_w v.1 x.vers.length v.2 x.vers w1 rfl (RpW.vs (hw.fa 0 rfl)) W.n1 x v s b0 (hw.at (i := 0) rfl)) ?_
      exact hk2 _ ⟨rfl, rfl, rfl, rfl, ext_cut 4 (by kernel_rfl) (by kernel_rfl)⟩
    refine L_nil ?_
    change J _ _ _ _
    refine J_cond rfl (fun h3 => ?_) (fun h3 => ?_)
    ·
      first | (have h3 := of_decide_eq_true h3) | (have h3 := of_decide_eq_false h3) | skip
      refine J_seq ?_
      refine J_region ?_
      refine L_v rfl rfl rfl (V_assign rfl rfl) ?_
      refine L_nil ?_
      change J _ _ _ _
      refine J_ret ?_
      change Kret _ _ _ Exit.ret _
      refine ret1 rfl rfl (RV_t rfl) ?_
      exact fun w' h => ⟨congrArg (fun b => Ending.returned (Value.int .i64 b)) (by unfold verE; rw [if_neg h1, if_neg (vno h3)]), h.fr⟩
    ·
      first | (have h3 := of_decide_eq_true h3) | (have h3 := of_decide_eq_false h3) | skip
      obtain ⟨hH, hC⟩ := vyes h3
      refine J_skip ?_
      change J _ _ _ _
      refine J_seq ?_
      refine J_region ?_
      refine L_alloc rfl rfl rfl rfl z54pg (fun b1 => ?_)
      refine L_nil ?_
      change J _ _ _ _
      refine J_seq ?_
      refine J_seq ?_
      refine J_region ?_
      refine L_v rfl rfl rfl (V_fieldAddr rfl rfl Tryd.underlying34 rfl sz23pg rfl) ?_
      refine L_v rfl rfl rfl (V_load1 0 rfl rfl rfl Tryd.underlying23 rfl (by rfl)) ?_
      refine L_v rfl rfl rfl (V_len rfl rfl Tryd.underlying23 rfl) ?_
      refine L_v rfl rfl rfl (V_gtr rfl rfl rfl rfl) ?_
      refine L_nil ?_
      change J _ _ _ _
      refine J_cond rfl (fun h4 => ?_) (fun h4 => ?_)
      ·
        first | (have h4 := of_decide_eq_true h4) | (have h4 := of_decide_eq_false h4) | skip
        refine J_seq ?_
        refine J_region ?_
        refine L_v rfl rfl rfl (V_fieldAddr rfl rfl Tryd.underlying54 rfl sz4pg rfl) ?_
        refine L_store1 1 (l' := cmM (true, dz)) rfl rfl rfl rfl rfl rfl rfl sz4pg (Nat.le_of_ble_eq_true (by kernel_rfl)) (by kernel_rfl) ?_
        refine L_nil ?_
        change J _ _ _ _
        refine J_region ?_
        refine L_v rfl rfl rfl (V_fieldAddr rfl rfl Tryd.underlying34 rfl sz23pg rfl) ?_
        refine L_v rfl rfl rfl (V_load1 0 rfl rfl rfl Tryd.underlying23 rfl (by rfl)) ?_
        refine L_callV rfl rfl rfl rfl rfl rfl tx10pg (fun w1 hw => vdig_d x.vers v w1 (RpW.vs (hw.fa 0 rfl)) W.cap hH (TabK.later hw (by simp) hK)) ?_
        refine L_v rfl rfl rfl (V_move rfl rfl) ?_
        refine L_v rfl rfl rfl (V_extract rfl rfl rfl) ?_
        refine L_v rfl rfl rfl (V_extract rfl rfl rfl) ?_
        refine L_v rfl rfl rfl (V_fieldAddr rfl rfl Tryd.underlying54 rfl sz26pg rfl) ?_
        refine L_storeT 1 (l' := cmM (true, verD x.vers)) rfl rfl rfl rfl rfl rfl (szd sz26pg (by kernel_rfl)) (all_one (by kernel_rfl)) (Nat.le_of_ble_eq_true (by kernel_rfl)) (by kernel_rfl) ?_
        refine L_nil ?_
        change J _ _ _ _
        refine J_seq ?_
        refine J_conv [(b0, row 34 (rpM x v s)), (b1, row 54 (cmM (clm x.vers)))] [rpF x v s] (fun w1 hw => by rw [show clm x.vers = (true, verD x.vers) from if_pos (by omega)]; exact hw) ?_
        refine J_regionO (.pure 0 (.pure 1 (.pure 2 (.pure 3 (.pure 4 (.pure 6 (.pure 7 (.pure 8 (.one 5 (.one 9 (.pure 10 (.nil)))))))))))) _ _ (Pk.refl _) (fun f hf => hf) rfl rfl (by kernel_rfl) ?_
        refine LO_v rfl rfl rfl rfl (V_fieldAddr rfl rfl Tryd.underlying34 rfl sz32pg rfl) ?_
        refine LO_v rfl rfl rfl rfl (V_fieldAddr rfl rfl Tryd.underlying32 rfl sz30pg rfl) ?_
        refine LO_v rfl rfl rfl rfl (V_fieldAddr rfl rfl Tryd.underlying30 rfl sz26pg rfl) ?_
        refine LO_v rfl rfl rfl rfl (V_loadT 0 (vs := dgM x.head.1.2.1) rfl rfl rfl Tryd.underlying26 rfl sz26pg (by kernel_rfl) (by kernel_rfl)) ?_
        refine LO_v rfl rfl rfl rfl (V_move rfl rfl) ?_
        refine LO_v rfl rfl rfl rfl (V_loadT 1 (vs := cmM (clm x.vers)) rfl rfl rfl Tryd.underlying54 rfl sz54pg (by kernel_rfl) (by kernel_rfl)) ?_
        refine LO_v rfl rfl rfl rfl (V_fieldAddr rfl rfl Tryd.underlying34 rfl sz28pg rfl) ?_
        refine LO_v rfl rfl rfl rfl (V_loadT 0 (vs := pfM x.pf s) rfl rfl rfl Tryd.underlying28 rfl sz28pg (by kernel_rfl) (by kernel_rfl)) ?_
        refine LO_callV rfl rfl rfl rfl rfl rfl rfl rfl tx12pg (fun w1 hw => of_d user w1 (TabK.later hw (by simp) hK) hu) (Pk.refl _) (fun f hf => hf) ?_
        refine LO_callV rfl rfl rfl rfl rfl rfl rfl rfl tx21pg (fun w1 hw => pCheck_w (pathD user) (clm x.vers) x.pf s x.head.1.2.1 w1 (pathD_b _) (clm_b _) W.sb W.p1 W.p2 (hw.fa 0 rfl).r (by have := W.n2; omega) (TabK.later hw (by simp) hK)) (Pk.refl _) (fun f hf => hf) ?_
        refine LO_v rfl rfl rfl rfl (V_assign rfl rfl) ?_
        refine LO_nil ?_
        change J _ _ _ _
        refine J_ret ?_
        change Kret _ _ _ Exit.ret _
        refine ret1 rfl rfl (RV_t rfl) ?_
        exact fun w' h => ⟨congrArg (fun b => Ending.returned (Value.int .i64 b)) (by unfold verE; rw [if_neg h1, if_pos ⟨hH, hC⟩]), h.fr⟩
      ·
        first | (have h4 := of_decide_eq_true h4) | (have h4 := of_decide_eq_false h4) | skip
        refine J_skip ?_
        change J _ _ _ _
        refine J_seq ?_
        refine J_conv [(b0, row 34 (rpM x v s)), (b1, row 54 (cmM (clm x.vers)))] [rpF x v s] (fun w1 hw => by rw [show clm x.vers = cm0 from if_neg (by omega)]; exact hw) ?_
        refine J_regionO (.pure 0 (.pure 1 (.pure 2 (.pure 3 (.pure 4 (.pure 6 (.pure 7 (.pure 8 (.one 5 (.one 9 (.pure 10 (.nil)))))))))))) _ _ (Pk.refl _) (fun f hf => hf) rfl rfl (by kernel_rfl) ?_
        refine LO_v rfl rfl rfl rfl (V_fieldAddr rfl rfl Tryd.underlying34 rfl sz32pg rfl) ?_
        refine LO_v rfl rfl rfl rfl (V_fieldAddr rfl rfl Tryd.underlying32 rfl sz30pg rfl) ?_
        refine LO_v rfl rfl rfl rfl (V_fieldAddr rfl rfl Tryd.underlying30 rfl sz26pg rfl) ?_
        refine LO_v rfl rfl rfl rfl (V_loadT 0 (vs := dgM x.head.1.2.1) rfl rfl rfl Tryd.underlying26 rfl sz26pg (by kernel_rfl) (by kernel_rfl)) ?_
        refine LO_v rfl rfl rfl rfl (V_move rfl rfl) ?_
        refine LO_v rfl rfl rfl rfl (V_loadT 1 (vs := cmM (clm x.vers)) rfl rfl rfl Tryd.underlying54 rfl sz54pg (by kernel_rfl) (by kernel_rfl)) ?_
        refine LO_v rfl rfl rfl rfl (V_fieldAddr rfl rfl Tryd.underlying34 rfl sz28pg rfl) ?_
        refine LO_v rfl rfl rfl rfl (V_loadT 0 (vs := pfM x.pf s) rfl rfl rfl Tryd.underlying28 rfl sz28pg (by kernel_rfl) (by kernel_rfl)) ?_
        refine LO_callV rfl rfl rfl rfl rfl rfl rfl rfl tx12pg (fun w1 hw => of_d user w1 (TabK.later hw (by simp) hK) hu) (Pk.refl _) (fun f hf => hf) ?_
        refine LO_callV rfl rfl rfl rfl rfl rfl rfl rfl tx21pg (fun w1 hw => pCheck_w (pathD user) (clm x.vers) x.pf s x.head.1.2.1 w1 (pathD_b _) (clm_b _) W.sb W.p1 W.p2 (hw.fa 0 rfl).r (by have := W.n2; omega) (TabK.later hw (by simp) hK)) (Pk.refl _) (fun f hf => hf) ?_
        refine LO_v rfl rfl rfl rfl (V_assign rfl rfl) ?_
        refine LO_nil ?_
        change J _ _ _ _
        refine J_ret ?_
        change Kret _ _ _ Exit.ret _
        refine ret1 rfl rfl (RV_t rfl) ?_
        exact fun w' h => ⟨congrArg (fun b => Ending.returned (Value.int .i64 b)) (by unfold verE; rw [if_neg h1, if_pos ⟨hH, hC⟩]), h.fr⟩

end Go.Proofs.YtfdmjjhgdbpfeaaDoor

/- More rules: rows that a function hands out as the caller's own; facts that tell a block's type. -/
set_option linter.unusedVariables false
set_option linter.unusedSimpArgs false
namespace Go.Sx
/-- A slice whose cells lie in a block of this type, somewhere. -/
def SlT (T : TypeId) (sz : Nat) (w : World) (v : Value) (n : Nat) (ks : List Value) : Prop :=
  (n = 0 ∧ ks = [] ∧ ∃ a c, v = .slice a 0 c) ∨ ∃ g pre r c, v = .slice (some ⟨g, pre.length, none⟩) n c ∧ ks.length = n * sz ∧ w.heap[g]? = some (row T (pre ++ (ks ++ r)))
theorem SlT.toC {T : TypeId} {sz : Nat} {w : World} {v : Value} {n : Nat} {ks : List Value} (h : SlT T sz w v n ks) : SlC sz w v n ks := by
  rcases h with ⟨rfl, rfl, a, c, rfl⟩ | ⟨g, pre, r, c, rfl, hl, hg⟩
  · exact .inl ⟨rfl, rfl, a, c, rfl⟩
  · refine .inr ⟨g, pre.length, c, rfl, hl, fun j x hj => ?_⟩
    have hjl : j < ks.length := (List.getElem?_eq_some_iff.1 hj).1
    refine cell_of (off := pre.length + j) hg ?_
    show (pre ++ (ks ++ r)).toArray[pre.length + j]? = some x
    rw [List.getElem?_toArray, List.getElem?_append_right (by omega), Nat.add_sub_cancel_left, List.getElem?_append_left hjl]
    exact hj
def factT (T : TypeId) (sz : Nat) (v : Value) (n : Nat) (ks : List Value) : Fact where
  fp k := ks ≠ [] ∧ ∃ off c, v = .slice (some ⟨k, off, none⟩) n c
  p w := SlT T sz w v n ks ∧ (ks = [] → n = 0)
  dep w w' h hp := by
    refine ⟨?_, hp.2⟩
    rcases hp.1 with h1 | ⟨g, pre, r, c, rfl, hl, hg⟩
    · exact .inl h1
    · by_cases hk : ks = []
      · exact .inl ⟨hp.2 hk, hk, _, _, by rw [hp.2 hk]⟩
      · exact .inr ⟨g, pre, r, c, rfl, hl, by rw [h g ⟨hk, _, _, rfl⟩]; exact hg⟩
theorem FA.toC {w : World} {T : TypeId} {sz n : Nat} {v : Value} {ks : List Value} (h : FA w (factT T sz v n ks)) : FA w (factC sz v n ks) := .slc h.1.1.toC
/-- Such a row, new. -/
structure NewO (T : TypeId) (sz : Nat) (w w' : World) (q : OwnR) (n : Nat) (ks : List Value) : Prop where
  own : OwnC sz q n ks
  at_ : ∀ g o, (g, o) ∈ ownM T q ks → w'.heap[g]? = some o ∧ w.heap.size ≤ g
theorem NewO.fact {T : TypeId} {sz : Nat} {w w' : World} {q : OwnR} {n : Nat} {ks : List Value} (h : NewO T sz w w' q n ks) (hsz : 0 < sz) : NewF w w' (factT T sz (.slice (oA q) n (oC q)) n ks) := by
  cases q with
  | none =>
    obtain ⟨h1, h2⟩ := h.own
    subst h1; subst h2
    exact ⟨⟨⟨.inl ⟨rfl, rfl, _, _, rfl⟩, fun _ => rfl⟩, fun k hk => absurd rfl hk.1⟩, fun k hk => absurd rfl hk.1⟩
  | some q =>
    obtain ⟨g, c, r⟩ := q
    obtain ⟨h1, h2, h3⟩ := h.own
    obtain ⟨h4, h5⟩ := h.at_ g (row T (ks ++ r)) (by simp [ownM])
    have hlt : g < w'.heap.size := (Array.getElem?_eq_some_iff.1 h4).1
    have e : ∀ k, (factT T sz (.slice (some ⟨g, 0, none⟩) n c) n ks).fp k → k = g := by
      rintro k ⟨_, off, c', he⟩
      simp only [Value.slice.injEq, Option.some.injEq, Addr.mk.injEq] at he
      exact he.1.1.symm
    refine ⟨⟨⟨.inr ⟨g, [], r, c, rfl, h1, h4⟩, fun hk => ?_⟩, fun k hk => e k hk ▸ hlt⟩, fun k hk => e k hk ▸ h5⟩
    rw [hk] at h1
    have : n * sz = 0 := h1.symm
    rcases Nat.mul_eq_zero.1 this with h | h
    · exact h
    · omega
theorem OkW.addOwn {cx : Cx} {m : Mem} {fs : List Fact} {w w' : World} (h : OkW cx m fs w) (hfr : Fr [] w w') {T : TypeId} {sz n : Nat} {q : OwnR} {ks : List Value} (hq : NewO T sz w w' q n ks) : OkW cx (m ++ ownM T q ks) fs w' := by
  cases q with
  | none =>
    show OkW cx (m ++ []) fs w'
    rw [List.append_nil]
    exact h.fr0 hfr
  | some q =>
    obtain ⟨g, c, r⟩ := q
    obtain ⟨h4, h5⟩ := hq.at_ g (row T (ks ++ r)) (by simp [ownM])
    exact h.add hfr h4 h5
/-- One's own row at the end of a function is new. -/
theorem NewO.of {cx : Cx} {m : Mem} {fs : List Fact} {w : World} (h : OkW cx m fs w) (hm : cx.mods = []) {T : TypeId} {sz n : Nat} {q : OwnR} {ks : List Value} (hq : OwnC sz q n ks) (hs : ∀ x ∈ ownM T q ks, x ∈ m) : NewO T sz cx.w0 w q n ks :=
  ⟨hq, fun g o hg => ⟨h.mem g o (hs _ hg), by
    rcases h.may g (List.mem_map.2 ⟨_, hs _ hg, rfl⟩) with h1 | h1
    · exact h1
    · rw [hm] at h1; cases h1⟩⟩
/-- Blocks and facts that a function has laid anew. -/
structure NewL (w w' : World) (l : Mem) (gs : List Fact) : Prop where
  at_ : ∀ g o, (g, o) ∈ l → w'.heap[g]? = some o ∧ w.heap.size ≤ g
  nd : (l.map (·.1)).Nodup
  fa : ∀ f ∈ gs, NewF w w' f
  dis : ∀ f ∈ gs, ∀ k, f.fp k → k ∉ l.map (·.1)
theorem OkW.addL {cx : Cx} {m : Mem} {fs : List Fact} {w w' : World} (h : OkW cx m fs w) (hfr : Fr [] w w') {l : Mem} {gs : List Fact} (hb : NewL w w' l gs) : OkW cx (m ++ l) (fs ++ gs) w' := by
  have hnew : ∀ k ∈ l.map (·.1), w.heap.size ≤ k := fun k hk => by
    obtain ⟨⟨g, o⟩, hg, rfl⟩ := List.mem_map.1 hk
    exact (hb.at_ g o hg).2
  have hdis : ((m ++ l).map (·.1)).Nodup := by
    rw [List.map_append, List.nodup_append]
    refine ⟨h.dis, hb.nd, fun a ha c hc e => ?_⟩
    have := h.lt ha
    have := hnew c hc
    omega
  refine ⟨fun b o hbo => ?_, hdis, fun b hbm => ?_, fun f hf => ?_, h.fr.step hfr (by simp)⟩
  · rcases List.mem_append.1 hbo with h1 | h1
    · exact (hfr.block b (h.lt (List.mem_map.2 ⟨_, h1, rfl⟩)) (by simp)).trans (h.mem b o h1)
    · exact (hb.at_ b o h1).1
  · rw [List.map_append] at hbm
    rcases List.mem_append.1 hbm with h1 | h1
    · exact h.may b h1
    · exact .inl (Nat.le_trans h.fr.size (hnew b h1))
  · rcases List.mem_append.1 hf with h1 | h1
    · obtain ⟨h2, h3⟩ := h.facts f h1
      refine ⟨f.dep w w' (fun k hk => hfr.block k (h3 k hk).1 (by simp)) h2, fun k hk => ⟨Nat.lt_of_lt_of_le (h3 k hk).1 hfr.size, fun hkm => ?_⟩⟩
      rw [List.map_append] at hkm
      rcases List.mem_append.1 hkm with h4 | h4
      · exact (h3 k hk).2 h4
      · have := hnew k h4
        have := (h3 k hk).1
        omega
    · have h2 := hb.fa f h1
      refine ⟨h2.fa.1, fun k hk => ⟨h2.fa.2 k hk, fun hkm => ?_⟩⟩
      rw [List.map_append] at hkm
      rcases List.mem_append.1 hkm with h4 | h4
      · have := h.lt h4
        have := h2.new k hk
        omega
      · exact hb.dis f h1 k hk h4
theorem NewL.of {cx : Cx} {m : Mem} {fs : List Fact} {w : World} (h : OkW cx m fs w) (hm : cx.mods = []) {l : Mem} {gs : List Fact} (hl : List.Sublist l m) (hg : ∀ f ∈ gs, f ∈ fs) (hn : ∀ f ∈ gs, ∀ k, f.fp k → cx.w0.heap.size ≤ k) : NewL cx.w0 w l gs where
  at_ g o hgo := ⟨h.mem g o (hl.subset hgo), by
    rcases h.may g (List.mem_map.2 ⟨_, hl.subset hgo, rfl⟩) with h1 | h1
    · exact h1
    · rw [hm] at h1; cases h1⟩
  nd := (hl.map _).nodup h.dis
  fa f hf := ⟨⟨(h.facts f (hg f hf)).1, fun k hk => ((h.facts f (hg f hf)).2 k hk).1⟩, hn f hf⟩
  dis f hf k hk hkm := ((h.facts f (hg f hf)).2 k hk).2 ((hl.map _).subset hkm)
theorem NewL.all {w w' : World} {l : Mem} {gs hs : List Fact} (h : NewL w w' l (gs ++ hs)) : NewL w w' l (gs ++ [allF hs]) where
  at_ := h.at_
  nd := h.nd
  fa f hf := by
    rcases List.mem_append.1 hf with h1 | h1
    · exact h.fa f (List.mem_append_left _ h1)
    · obtain rfl := List.mem_singleton.1 h1
      exact .all fun f hf => h.fa f (List.mem_append_right _ hf)
  dis f hf k hk := by
    rcases List.mem_append.1 hf with h1 | h1
    · exact h.dis f (List.mem_append_left _ h1) k hk
    · obtain rfl := List.mem_singleton.1 h1
      obtain ⟨g, hg, hk⟩ := hk
      exact h.dis g (List.mem_append_right _ hg) k hk
theorem NewO.toL {w w' : World} {T : TypeId} {sz n : Nat} {q : OwnR} {ks : List Value} (h : NewO T sz w w' q n ks) : NewL w w' (ownM T q ks) [] where
  at_ := h.at_
  nd := by rcases q with _ | ⟨g, c, r⟩ <;> simp [ownM]
  fa _ hf := nomatch hf
  dis _ hf := nomatch hf
theorem FA.nilC {w : World} {sz n : Nat} {a : Option Addr} {c : Nat} {ks : List Value} (h : FA w (factC sz (.slice a n c) n ks)) (ha : a = none) : n = 0 ∧ ks = [] := by
  rcases h.1 with ⟨h1, h2, _⟩ | ⟨b, off, c', h1, _⟩
  · exact ⟨h1, h2⟩
  · subst ha
    simp at h1
section
variable {cx : Cx} {o : Oper} {st : St}
theorem V_max {x y : Operand} {at_ : Array TypeId} {k k' : IntKind} {m n r : Int} (ho : o.op = .call { callee := .builtin .max, args := #[x, y], argTypes := at_ }) (hx : ev st.env x = some (.int k m)) (hy : ev st.env y = some (.int k' n)) (hr : (if m < n then n else m) = r) : V cx o st (.int k r) :=
  V_builtin ho (vs := [.int k m, .int k' n]) (by simp [evs, hx, hy]) fun cs w _ => by
    subst hr
    simp only [builtin, Sem.run_bind, run_max_int2, Result.andThen_ok, Sem.run_pure]
end
end Go.Sx

/- Yielding where a guard holds. -/
set_option linter.unusedVariables false
namespace Go.Sx
open Go
section
variable {cx : Cx} {o : Oper} {st : St}

theorem L_wyield {o : Oper} {st : St} {ops : Array Oper} {K : St → Prop} {rest : List Oper} {x : Operand} {args : Array Operand} {at_ : Array TypeId} {l d j dj : Nat} {want : Bool} {vs : List Value} (hro : cx.ro = none) (hg : o.guard = some (j, want)) (hj : (ops[j]?).bind (·.dst) = some dj) (hdj : Nat.blt dj cx.nt = true)
    (hvj : get st.env dj = some (.bool want)) (ho : o.op = .call { callee := .value x, args := args, argTypes := at_ })
    (hd : o.dst = some d) (hlt : Nat.blt d cx.nt = true) (hx : ev st.env x = some (.func (.yield l) #[] #[])) (hv : evs st.env args.toList = some vs)
    (hy : ∀ w, OkW cx st.mem st.facts w → YieldAt (fen none) 0 cx.P l vs.toArray w fun e w' => ∃ v m, e = .returned v ∧ OkW cx m st.facts w' ∧ L cx ops K rest { st with env := (d, v) :: st.env, mem := m }) : L cx ops K (o :: rest) st := by
  refine L_want hg hj hdj hvj fun Q next a w hok hk => ?_
  refine ⟨fun _ _ => trivial, ?_⟩
  rw [Oper.semAt_eq _ _ _ (nd ho (fun c h => by cases h))]
  obtain ⟨fn, tmps, assign, body, hrun, hround⟩ := hy w hok.w
  have hr : (execOp a.eval o).run cx.P w = .ok (.round l fn tmps assign body) w := by
    unfold execOp; rw [ho]
    have e1 : args.map a.eval = vs.toArray := Array.ext' (by rw [Array.toList_map, hok.a.evs hv])
    simp only [resolve, hok.a.ev hx, e1, Deferred.ofValue, Sem.run_bind, Sem.run_pure, Result.andThen_ok, invoke, Array.empty_append, hrun]
  rw [hr]
  refine ⟨fun h => (by cases h), ?_⟩
  rw [hro]
  refine hround.mono ?_
  rintro e w' ⟨v, m, rfl, hw', hL⟩
  rw [hd]
  exact hk { st with env := (d, v) :: st.env, mem := m } _ _ ⟨hok.a.put hlt v, hw'⟩ hL
/-- An operation whose guard holds, by its own rule. -/
theorem L_wS {o : Oper} {st : St} {ops : Array Oper} {K : St → Prop} {rest : List Oper} {j dj : Nat} {want : Bool} (hg : o.guard = some (j, want)) (hj : (ops[j]?).bind (·.dst) = some dj) (hdj : Nat.blt dj cx.nt = true)
    (hvj : get st.env dj = some (.bool want)) (h : S cx o (fun s => L cx ops K rest s) st) : L cx ops K (o :: rest) st :=
  L_want hg hj hdj hvj fun Q next a w hok hk => h Q next a w hok fun st' a' w' h1 h2 => hk st' a' w' h1 h2
end
end Go.Sx

/- More rules: rows of one's own that begin somewhere in their block; calls that turn blocks of one's own and tell of new ones. -/
set_option linter.unusedVariables false
set_option linter.unusedSimpArgs false
namespace Go.Sx
open Go
/-- A block, what lies before, the room, what lies behind. -/
abbrev OwnP := Option (Nat × List Value × Nat × List Value)
def pA : OwnP → Option Addr
  | none => none
  | some (g, pre, _, _) => some ⟨g, pre.length, none⟩
def pC : OwnP → Nat
  | none => 0
  | some (_, _, c, _) => c
def pV (q : OwnP) (n : Nat) : Value := .slice (pA q) n (pC q)
def pM (e : TypeId) (q : OwnP) (ks : List Value) : Mem := match q with
  | none => []
  | some (g, pre, _, r) => [(g, row e (pre ++ (ks ++ r)))]
def PC (sz : Nat) (q : OwnP) (n : Nat) (ks : List Value) : Prop := match q with
  | none => n = 0 ∧ ks = []
  | some (_, _, c, r) => ks.length = n * sz ∧ n ≤ c ∧ (c - n) * sz ≤ r.length
def ofR : OwnR → OwnP
  | none => none
  | some (g, c, r) => some (g, [], c, r)
theorem ofR_V (q : OwnR) (n : Nat) : pV (ofR q) n = ownV q n := by rcases q with _ | ⟨g, c, r⟩ <;> rfl
theorem ofR_M (e : TypeId) (q : OwnR) (ks : List Value) : pM e (ofR q) ks = ownM e q ks := by rcases q with _ | ⟨g, c, r⟩ <;> rfl
theorem ofR_C {sz n : Nat} {q : OwnR} {ks : List Value} (h : OwnC sz q n ks) : PC sz (ofR q) n ks := by
  rcases q with _ | ⟨g, c, r⟩
  · exact h
  · exact ⟨h.1, h.2.1, Nat.le_of_eq h.2.2.symm⟩
theorem PC.len {sz n : Nat} {q : OwnP} {ks : List Value} (h : PC sz q n ks) : ks.length = n * sz := by
  rcases q with _ | ⟨g, pre, c, r⟩
  · rw [h.1, h.2, Nat.zero_mul]; rfl
  · exact h.1
theorem PC.le {sz n : Nat} {q : OwnP} {ks : List Value} (h : PC sz q n ks) : n ≤ pC q := by
  rcases q with _ | ⟨g, pre, c, r⟩
  · rw [h.1]; exact Nat.le_refl _
  · exact h.2.1
theorem pM_at {m : Mem} {e : TypeId} {g c : Nat} {pre r ks : List Value} (hm : ∀ p ∈ pM e (some (g, pre, c, r)) ks, p ∈ m) : (g, row e (pre ++ (ks ++ r))) ∈ m := hm _ (List.mem_singleton.2 rfl)
theorem PC.slT {cx : Cx} {sz n : Nat} {m : Mem} {fs : List Fact} {w : World} {e : TypeId} {q : OwnP} {ks : List Value} (h : OkW cx m fs w) (hm : ∀ p ∈ pM e q ks, p ∈ m) (hq : PC sz q n ks) : SlT e sz w (pV q n) n ks := by
  rcases q with _ | ⟨g, pre, c, r⟩
  · exact .inl ⟨hq.1, hq.2, none, 0, by rw [hq.1]; rfl⟩
  · exact .inr ⟨g, pre, r, c, rfl, hq.1, h.mem _ _ (pM_at hm)⟩
theorem PC.slC {cx : Cx} {sz n : Nat} {m : Mem} {fs : List Fact} {w : World} {e : TypeId} {q : OwnP} {ks : List Value} (h : OkW cx m fs w) (hm : ∀ p ∈ pM e q ks, p ∈ m) (hq : PC sz q n ks) : SlC sz w (pV q n) n ks := (hq.slT h hm).toC
/-! ### Parts -/
def pTake (sz h : Nat) (ks : List Value) : OwnP → OwnP
  | none => none
  | some (g, pre, c, r) => some (g, pre, c, ks.drop (h * sz) ++ r)
theorem pTake_V (sz h : Nat) (ks : List Value) (q : OwnP) : pV (pTake sz h ks q) h = .slice (pA q) h (pC q) := by rcases q with _ | ⟨g, pre, c, r⟩ <;> rfl
theorem pTake_M (e : TypeId) (sz h : Nat) (ks : List Value) (q : OwnP) : pM e (pTake sz h ks q) (ks.take (h * sz)) = pM e q ks := by
  rcases q with _ | ⟨g, pre, c, r⟩
  · rfl
  · show [(g, row e (pre ++ (ks.take (h * sz) ++ (ks.drop (h * sz) ++ r))))] = _
    rw [← List.append_assoc (ks.take _), List.take_append_drop]
    rfl
theorem pTake_C {sz h n : Nat} {ks : List Value} {q : OwnP} (hq : PC sz q n ks) (hh : h ≤ n) : PC sz (pTake sz h ks q) h (ks.take (h * sz)) := by
  rcases q with _ | ⟨g, pre, c, r⟩
  · obtain ⟨rfl, rfl⟩ := hq
    exact ⟨by omega, List.take_nil⟩
  · obtain ⟨h1, h2, h3⟩ := hq
    have hm : h * sz ≤ n * sz := Nat.mul_le_mul_right _ hh
    refine ⟨by rw [List.length_take, h1]; omega, by omega, ?_⟩
    rw [List.length_append, List.length_drop, h1]
    have e : c - h = (c - n) + (n - h) := by omega
    rw [e, Nat.add_mul, Nat.sub_mul n h]
    omega
def pDrop (sz l : Nat) (ks : List Value) : OwnP → OwnP
  | none => none
  | some (g, pre, c, r) => if c = l then some (g, pre, 0, ks ++ r) else some (g, pre ++ ks.take (l * sz), c - l, r)
theorem pDrop_V {sz l n : Nat} {ks : List Value} {q : OwnP} (hq : PC sz q n ks) (hl : l ≤ n) : pV (pDrop sz l ks q) (n - l) = .slice (if pC q = l then pA q else (pA q).map (·.add (l * sz))) (n - l) (pC q - l) := by
  rcases q with _ | ⟨g, pre, c, r⟩
  · obtain ⟨rfl, rfl⟩ := hq
    obtain rfl : l = 0 := by omega
    rfl
  · obtain ⟨h1, h2, h3⟩ := hq
    show pV (if c = l then _ else _) _ = Value.slice (if c = l then some _ else _) _ (c - l)
    split
    · rename_i hc
      subst hc
      show Value.slice _ _ 0 = Value.slice _ _ (c - c)
      rw [Nat.sub_self]
      rfl
    · have hm : l * sz ≤ n * sz := Nat.mul_le_mul_right _ hl
      show Value.slice (some ⟨g, (pre ++ ks.take (l * sz)).length, none⟩) _ _ = Value.slice (some (Addr.add ⟨g, pre.length, none⟩ (l * sz))) _ _
      rw [add_at, List.length_append, List.length_take, h1, Nat.min_eq_left hm]
      rfl
theorem pDrop_M {sz l n : Nat} {ks : List Value} {q : OwnP} (e : TypeId) (hq : PC sz q n ks) (hl : l ≤ n) : pM e (pDrop sz l ks q) (ks.drop (l * sz)) = pM e q ks := by
  rcases q with _ | ⟨g, pre, c, r⟩
  · rfl
  · obtain ⟨h1, h2, h3⟩ := hq
    show pM e (if c = l then _ else _) _ = _
    split
    · rename_i hc
      obtain rfl : n = l := by omega
      show [(g, row e (pre ++ (ks.drop (n * sz) ++ (ks ++ r))))] = _
      rw [List.drop_eq_nil_of_le (by omega)]
      rfl
    · show [(g, row e ((pre ++ ks.take (l * sz)) ++ (ks.drop (l * sz) ++ r)))] = _
      rw [List.append_assoc, ← List.append_assoc (ks.take _), List.take_append_drop]
      rfl
theorem pDrop_C {sz l n : Nat} {ks : List Value} {q : OwnP} (hq : PC sz q n ks) (hl : l ≤ n) : PC sz (pDrop sz l ks q) (n - l) (ks.drop (l * sz)) := by
  rcases q with _ | ⟨g, pre, c, r⟩
  · obtain ⟨rfl, rfl⟩ := hq
    exact ⟨by omega, List.drop_nil⟩
  · obtain ⟨h1, h2, h3⟩ := hq
    show PC sz (if c = l then _ else _) _ _
    split
    · rename_i hc
      obtain rfl : n = l := by omega
      rw [List.drop_eq_nil_of_le (by omega), Nat.sub_self]
      exact ⟨by simp, Nat.le_refl _, by simp⟩
    · refine ⟨by rw [List.length_drop, h1, Nat.sub_mul], by omega, ?_⟩
      rw [show c - l - (n - l) = c - n by omega]
      exact h3
/-! ### Appending -/
theorem run_append_room_off {P : Program} (w : World) (t tx ty e : TypeId) (i : TypeInfo) (ht : P.underlying t = some (.slice e)) (hi : P.info? e = some i) (b off sLen sCap : Nat) (x : Value) (n : Nat) (cur news : List Value) (hs : Src P i.size tx x n news w)
    (hroom : sLen + n ≤ sCap) (hg : w.heap[b]? = some (row e cur)) (hfit : off + sLen * i.size + news.length ≤ cur.length) :
    (Builtin.append_ #[t, tx] ty #[.slice (some ⟨b, off, none⟩) sLen sCap, x]).run P w = .ok (.slice (some ⟨b, off, none⟩) (sLen + n) sCap) (w.setRow b (cur.take (off + sLen * i.size) ++ news ++ cur.drop (off + sLen * i.size + news.length)).toArray) := by
  have hst := run_storeCells_at P b (off + sLen * i.size) e news 0 cur.toArray w hg (by simpa using hfit) hs.one
  simp only [Nat.add_zero] at hst
  rcases hs.kind with ⟨e', hk⟩ | hk <;> simp [Builtin.append_, run_underlying ht, run_underlying hk, sizeOf, typeInfo, hi, hs.len, hroom, hs.cells, add_at, hst]
theorem storedAt (pre ks r0 news : List Value) : (pre ++ (ks ++ r0)).take (pre.length + ks.length) ++ news ++ (pre ++ (ks ++ r0)).drop (pre.length + ks.length + news.length) = pre ++ ((ks ++ news) ++ r0.drop news.length) := by
  rw [← List.append_assoc pre, List.take_left' (List.length_append ..), ← List.drop_drop, List.drop_left' (List.length_append ..)]
  simp only [List.append_assoc]
section
variable {cx : Cx} {ops : Array Oper} {K : St → Prop} {o : Oper} {rest : List Oper} {st : St}
theorem S_appendP {args : Array Operand} {t tx e : TypeId} (m1 m2 : Mem) (q : OwnP) (ks : List Value) {d size bytes n m : Nat} {z x : Value} {news : List Value} (ho : o.op = .call { callee := .builtin .append, args := args, argTypes := #[t, tx] }) (hd : o.dst = some d) (hlt : Nat.blt d cx.nt = true)
    (hv : evs st.env args.toList = some [pV q n, x]) (ht : cx.P.underlying t = some (.slice e)) (he : ElemOf cx.P e size bytes z) (hm : st.mem = m1 ++ (pM e q ks ++ m2)) (hq : PC size q n ks)
    (hsrc : SrcAt cx st size tx x m news) (hb : (n + m) * bytes ≤ 140737488355328) (h63 : n + m ≤ 9223372036854775807)
    (h : ∀ q', PC size q' (n + m) (ks ++ news) → K { st with env := (d, pV q' (n + m)) :: st.env, mem := m1 ++ (pM e q' (ks ++ news) ++ m2) }) : S cx o K st := by
  intro Q next a w hok hk
  have hnl := (hsrc w hok.w).newsLen
  rcases q with _ | ⟨b, pre, cap, r0⟩
  · refine S_appendN m1 m2 none ks (n := n) (m := m) (x := x) (news := news) ho hd hlt hv ht he hm hq hsrc hb h63 (fun q' hq' => ?_) Q next a w hok hk
    have h1 := h (ofR q') (ofR_C hq')
    rw [ofR_V, ofR_M] at h1
    exact h1
  · obtain ⟨hks, hnc, hr0⟩ := hq
    have hkn : (ks ++ news).length = (n + m) * size := by rw [List.length_append, hks, hnl, Nat.add_mul]
    have hin : (b, row e (pre ++ (ks ++ r0))) ∈ st.mem := by rw [hm]; simp [pM]
    by_cases hcap : cap < n + m
    · refine S_appendG (n := n) (cap := cap) (olds := ks) (m := m) (news := news) (x := x) (ao := some ⟨b, pre.length, none⟩) ho hd hlt hv ht he (fun w1 hw1 => SlC.first (SlT.toC (T := e) (.inr ⟨b, pre, r0, cap, rfl, hks, hw1.mem _ _ hin⟩))) hsrc hcap hb h63
        (K := fun s => ∃ q', PC size q' (n + m) (ks ++ news) ∧ s = { st with env := (d, pV q' (n + m)) :: st.env, mem := st.mem ++ pM e q' (ks ++ news) }) (fun g c r hc hr => ?_) Q next a w hok ?_
      · exact ⟨some (g, [], c, r), ⟨hkn, hc, Nat.le_of_eq hr.symm⟩, rfl⟩
      · rintro st' a' w' hok' ⟨q', hq', rfl⟩
        refine hk { st with env := (d, pV q' (n + m)) :: st.env, mem := m1 ++ (pM e q' (ks ++ news) ++ m2) } a' w' ⟨hok'.a, ?_⟩ (h q' hq')
        refine hok'.w.pk (Pk.of_perm (l := m1 ++ (m2 ++ pM e q' (ks ++ news))) (List.Perm.append_left _ List.perm_append_comm) ?_) (fun f hf => hf)
        show List.Sublist _ (st.mem ++ pM e q' (ks ++ news))
        rw [hm, List.append_assoc, List.append_assoc]
        exact List.Sublist.append (List.Sublist.refl _) (List.sublist_append_right _ _)
    · obtain ⟨⟨ti, hti, hz, hs, hby⟩, hzs⟩ := he
      have hh := hok.w.mem _ _ hin
      have hsr := hsrc w hok.w
      have hmul : (n + m) * size ≤ cap * size := Nat.mul_le_mul_right _ (by omega)
      have hfit : pre.length + n * ti.size + news.length ≤ (pre ++ (ks ++ r0)).length := by
        rw [hs, List.length_append, List.length_append, hks, hnl]
        have := Nat.sub_mul cap n size
        have := Nat.add_mul n m size
        omega
      have hr := run_append_room_off (P := cx.P) w t tx o.type e ti ht hti b pre.length n cap x m (pre ++ (ks ++ r0)) news (by rw [hs]; exact hsr) (by omega) hh hfit
      refine wpIn_value (nd ho (fun c h => by cases h)) (run_append_op hok.a ho hv hr) ?_
      rw [hd]
      have hrl : (cap - (n + m)) * size ≤ (r0.drop news.length).length := by
        rw [List.length_drop, hnl, show cap - (n + m) = cap - n - m by omega, Nat.sub_mul (cap - n) m]
        omega
      refine hk _ _ _ ⟨hok.a.put hlt _, ?_⟩ (h (some (b, pre, cap, r0.drop news.length)) ⟨hkn, by omega, hrl⟩)
      have hi : st.mem[m1.length]? = some (b, row e (pre ++ (ks ++ r0))) := by
        rw [hm, List.getElem?_append_right (Nat.le_refl _), Nat.sub_self]
        rfl
      have h2 := hok.w.swap (p' := row e (pre ++ ((ks ++ news) ++ r0.drop news.length))) (g := b) hi (Fr.setRow (w := w) (b := b) ((pre ++ (ks ++ r0)).take (pre.length + n * ti.size) ++ news ++ (pre ++ (ks ++ r0)).drop (pre.length + n * ti.size + news.length)).toArray) (by
        rw [setRow_same w b _ _ e (0, 0) hh]
        rw [hs, ← hks, storedAt]) (.inl rfl)
      have e1 : swapMem st.mem m1.length b (row e (pre ++ ((ks ++ news) ++ r0.drop news.length))) = m1 ++ (pM e (some (b, pre, cap, r0.drop news.length)) (ks ++ news) ++ m2) := by
        rw [hm]
        unfold swapMem
        rw [List.set_append_right _ _ (Nat.le_refl _), Nat.sub_self]
        rfl
      rw [e1] at h2
      exact h2
/-! ### What such a call comes to -/
/-- Of these blocks others came; new facts are told. -/
structure Upd (m : Mem) (w w' : World) (l : Mem) (gs : List Fact) : Prop where
  fr : Fr (m.map (·.1)) w w'
  at_ : MemAt w' l
  may : ∀ k ∈ l.map (·.1), k ∈ m.map (·.1) ∨ w.heap.size ≤ k
  fa : ∀ f ∈ gs, NewF w w' f
  dis : ∀ f ∈ gs, ∀ k, f.fp k → k ∉ l.map (·.1)
theorem OkW.upd {m1 m : Mem} {fs : List Fact} {w w' : World} {l : Mem} {gs : List Fact} (h : OkW cx (m1 ++ m) fs w) (hu : Upd m w w' l gs) : OkW cx (m1 ++ l) (fs ++ gs) w' := by
  have h1 := h.ref (Ms := fun _ : Unit => l) (z := ()) hu.fr hu.at_ hu.may
  refine ⟨h1.mem, h1.dis, h1.may, fun f hf => ?_, h1.fr⟩
  rcases List.mem_append.1 hf with h2 | h2
  · exact h1.facts f h2
  · have h3 := hu.fa f h2
    refine ⟨h3.fa.1, fun k hk => ⟨h3.fa.2 k hk, fun hkm => ?_⟩⟩
    rw [List.map_append] at hkm
    rcases List.mem_append.1 hkm with h4 | h4
    · have := h.lt (show k ∈ (m1 ++ m).map (·.1) by rw [List.map_append]; exact List.mem_append_left _ h4)
      have := h3.new k hk
      omega
    · exact hu.dis f h2 k hk h4
theorem Upd.of {m mem l : Mem} {fs gs : List Fact} {w : World} (h : OkW cx mem fs w) (hm : cx.mods = m.map (·.1)) (hl : Pk l mem) (hg : ∀ f ∈ gs, f ∈ fs) (hn : ∀ f ∈ gs, ∀ k, f.fp k → cx.w0.heap.size ≤ k) : Upd m cx.w0 w l gs := by
  have h2 := h.pk hl hg
  exact ⟨hm ▸ h.fr, ⟨h2.mem, h2.dis⟩, fun k hk => by
    rcases h2.may k hk with h3 | h3
    · exact .inr h3
    · rw [hm] at h3
      exact .inl h3, fun f hf => ⟨⟨(h2.facts f hf).1, fun k hk => ((h2.facts f hf).2 k hk).1⟩, hn f hf⟩, fun f hf k hk => ((h2.facts f hf).2 k hk).2⟩
/-- Nothing turned. -/
theorem Upd.none {m : Mem} {w w' : World} (hm : MemAt w m) (hfr : Fr [] w w') : Upd m w w' m [] :=
  ⟨hfr.mono (by simp), ⟨fun b o hb => (hfr.block b (Array.getElem?_eq_some_iff.1 (hm.1 b o hb)).1 (by simp)).trans (hm.1 b o hb), hm.2⟩, fun k hk => .inl hk, fun f hf => (by cases hf), fun f hf => (by cases hf)⟩
theorem NewL.upd {w w' : World} {l : Mem} {gs : List Fact} (hfr : Fr [] w w') (h : NewL w w' l gs) : Upd [] w w' l gs :=
  ⟨hfr, ⟨fun b o hb => (h.at_ b o hb).1, h.nd⟩, fun k hk => by
    obtain ⟨⟨g, o⟩, hg, rfl⟩ := List.mem_map.1 hk
    exact .inr (h.at_ g o hg).2, h.fa, h.dis⟩
theorem Upd.newL {w w' : World} {l : Mem} {gs : List Fact} (h : Upd [] w w' l gs) : NewL w w' l gs where
  at_ g o hg := ⟨h.at_.1 g o hg, by
    rcases h.may g (List.mem_map.2 ⟨_, hg, rfl⟩) with h1 | h1
    · cases h1
    · exact h1⟩
  nd := h.at_.2
  fa := h.fa
  dis := h.dis
theorem L_pkF {l : List Oper} (m' : Mem) (fs' : List Fact) (hp : Pk m' st.mem) (hf : ∀ f ∈ fs', f ∈ st.facts) (h : L cx ops K l { st with mem := m', facts := fs' }) : L cx ops K l st :=
  fun Q a w ho hk => h Q a w ⟨ho.a, ho.w.pk hp hf⟩ hk
theorem LO_pk {m0 : Mem} {f0 : List Fact} {ord : Ord} (m' : Mem) (hp : Pk m' st.mem) (h : LO cx m0 f0 ops K ord { st with mem := m' }) : LO cx m0 f0 ops K ord st :=
  fun a w ho => h a w ⟨ho.a, ho.w.pk hp (fun f hf => hf)⟩
/-- One that would turn the world is passed over. -/
theorem LO_skipL {m0 : Mem} {f0 : List Fact} {r : Ord} {k t j dj : Nat} {want : Bool} {u : Value} (hk : ops[k]? = some o) (hg : o.guard = some (j, want)) (hj : (ops[j]?).bind (·.dst) = some dj) (hdj : Nat.blt dj cx.nt = true) (hvj : get st.env dj = some u) (hb : isB want u = false)
    (ht : o.dst = some t) (htl : Nat.blt t cx.nt = true) (hp : Pk m0 st.mem) (hf : ∀ f ∈ f0, f ∈ st.facts) (h : LO cx m0 f0 ops K r (st.put t undef)) : LO cx m0 f0 ops K (.one k r) st := by
  intro a w ho
  show wpOpIn _ _ _ _ _ _ _ _ _
  unfold wpOpIn
  simp only [hk]
  rw [if_neg (by rw [wanted_eq ho.a hg hj hdj hvj, hb]; decide)]
  rw [ht]
  exact ⟨fun _ _ => trivial, ho.w.pk hp hf, h _ _ (ho.put htl undef)⟩
theorem Pk.front (m : Mem) (x : Nat × Obj) : Pk (x :: m) (m ++ [x]) := Pk.of_perm (l := m ++ [x]) List.perm_append_comm (List.Sublist.refl _)
end
/-- A row of one's own, as a fact beside other blocks. -/
theorem PC.fm {cx : Cx} {sz n : Nat} {m1 m : Mem} {fs : List Fact} {w : World} {e : TypeId} {q : OwnP} {ks : List Value} (h : OkW cx (m1 ++ m) fs w) (hm : ∀ p ∈ pM e q ks, p ∈ m1) (hq : PC sz q n ks) : (factC sz (.slice (pA q) n (pC q)) n ks).p w ∧ ∀ k, (factC sz (.slice (pA q) n (pC q)) n ks).fp k → k < w.heap.size ∧ k ∉ m.map (·.1) := by
  have h1 := hq.slC h (fun p hp => List.mem_append_left _ (hm p hp))
  refine ⟨h1, fun k hk => ⟨factC_lt h1 k hk, fun hkm => ?_⟩⟩
  obtain ⟨hne, off, n', c', e'⟩ := hk
  rcases q with _ | ⟨g, pre, c, r⟩
  · exact hne hq.2
  · simp only [pA, Value.slice.injEq, Option.some.injEq, Addr.mk.injEq] at e'
    obtain rfl : g = k := e'.1.1
    have hd := h.dis
    rw [List.map_append, List.nodup_append] at hd
    exact hd.2.2 g (List.mem_map.2 ⟨_, hm _ (List.mem_singleton.2 rfl), rfl⟩) g hkm rfl
theorem OkW.deriv {cx : Cx} {m : Mem} {fs : List Fact} {w : World} (h : OkW cx m fs w) {f : Fact} (hp : f.p w) (hf : ∀ k, f.fp k → ∃ g ∈ fs, g.fp k) : OkW cx m (fs ++ [f]) w :=
  ⟨h.mem, h.dis, h.may, fun g hg => by
    rcases List.mem_append.1 hg with h1 | h1
    · exact h.facts g h1
    · obtain rfl := List.mem_singleton.1 h1
      refine ⟨hp, fun k hk => ?_⟩
      obtain ⟨g, hg, hk⟩ := hf k hk
      exact (h.facts g hg).2 k hk, h.fr⟩
/-- A row of one's own that is new, as a fact. -/
theorem PC.newF {w w' : World} {sz n : Nat} {e : TypeId} {q : OwnP} {ks : List Value} (hq : PC sz q n ks) (hm : ∀ g o, (g, o) ∈ pM e q ks → w'.heap[g]? = some o ∧ w.heap.size ≤ g) : NewF w w' (factC sz (.slice (pA q) n (pC q)) n ks) := by
  rcases q with _ | ⟨g, pre, c, r⟩
  · obtain ⟨rfl, rfl⟩ := hq
    exact ⟨.slc (.inl ⟨rfl, rfl, _, _, rfl⟩), fun k hk => absurd rfl hk.1⟩
  · obtain ⟨h1, h2⟩ := hm g _ (List.mem_singleton.2 rfl)
    refine ⟨.slc (SlT.toC (T := e) (.inr ⟨g, pre, r, c, rfl, hq.1, h1⟩)), fun k hk => ?_⟩
    obtain ⟨_, off, n', c', e'⟩ := hk
    simp only [pA, Value.slice.injEq, Option.some.injEq, Addr.mk.injEq] at e'
    obtain rfl : g = k := e'.1.1
    exact h2
/-- A row of one's own is from now on only told of. -/
theorem J_toFactP {cx : Cx} {c : Code} {K : Exit → St → Prop} {st : St} {e : TypeId} {sz n : Nat} (m1 : Mem) (q : OwnP) (ks : List Value) (hm : st.mem = m1 ++ pM e q ks) (hq : PC sz q n ks) (h : J cx c K { st with mem := m1, facts := st.facts ++ [factC sz (.slice (pA q) n (pC q)) n ks] }) : J cx c K st := by
  intro a w ho
  refine h a w ⟨ho.a, ?_⟩
  have h0 := ho.w
  rw [hm] at h0
  have h1 : OkW cx (pM e q ks ++ m1) st.facts w := h0.perm List.perm_append_comm
  have h2 := h0.sub (List.sublist_append_left _ _) (fun f hf => hf)
  refine ⟨h2.mem, h2.dis, h2.may, fun f hf => ?_, h2.fr⟩
  rcases List.mem_append.1 hf with h3 | h3
  · exact h2.facts f h3
  · obtain rfl := List.mem_singleton.1 h3
    exact PC.fm h1 (fun p hp => hp) hq
/-- A fact that follows from others. -/
theorem J_deriv {cx : Cx} {c : Code} {K : Exit → St → Prop} {st : St} (f : Fact) (hp : ∀ w, OkW cx st.mem st.facts w → f.p w) (hf : ∀ k, f.fp k → ∃ g ∈ st.facts, g.fp k) (h : J cx c K { st with facts := st.facts ++ [f] }) : J cx c K st :=
  fun a w ho => h a w ⟨ho.a, ho.w.deriv (hp w ho.w) hf⟩
end Go.Sx

/- A reply is verified, by the reference. -/
set_option linter.unusedVariables false
set_option linter.unusedSimpArgs false
set_option maxRecDepth 100000
namespace Go.Proofs.YtfdmjjhgdbpfeaaDoor
open Go.Sx
theorem sz3ph : (Tryd.prog.info? 3).map (·.size) = some 1 := by kernel_rfl
theorem sz23ph : (Tryd.prog.info? 23).map (·.size) = some 1 := by kernel_rfl
theorem sz26ph : (Tryd.prog.info? 26).map (·.size) = some 32 := by kernel_rfl
theorem sz28ph : (Tryd.prog.info? 28).map (·.size) = some 66 := by kernel_rfl
theorem sz30ph : (Tryd.prog.info? 30).map (·.size) = some 65 := by kernel_rfl
theorem sz32ph : (Tryd.prog.info? 32).map (·.size) = some 97 := by kernel_rfl
theorem sz54ph : (Tryd.prog.info? 54).map (·.size) = some 33 := by kernel_rfl
theorem tx22ph : Txt Tryd.prog 22 := txt_of Tryd.func22 rfl (by kernel_rfl)
theorem tx23ph : Txt Tryd.prog 23 := txt_of Tryd.func23 rfl (by kernel_rfl)
theorem tx24ph : Txt Tryd.prog 24 := txt_of Tryd.func24 rfl (by kernel_rfl)
theorem tx25ph : Txt Tryd.prog 25 := txt_of Tryd.func25 rfl (by kernel_rfl)
theorem tx26ph : Txt Tryd.prog 26 := txt_of Tryd.func26 rfl (by kernel_rfl)
theorem tx27ph : Txt Tryd.prog 27 := txt_of Tryd.func27 rfl (by kernel_rfl)
theorem z26ph : (Tryd.prog.info? 26).bind (·.zero) = some (.agg (dgM dz).toArray) := by kernel_rfl
theorem z54ph : (Tryd.prog.info? 54).bind (·.zero) = some (.agg (cmM cm0).toArray) := by kernel_rfl

set_option maxHeartbeats 1000000 in
theorem rverify_w (key user : ByteArray) (x : Rp) (v s : Sl) (w : World) (W : RpW w x v s) (hu : user.size ≤ 1000000) (hR : TabK KT 0 w) :
    Calls Tryd.prog 8 #[.string key, .string user, .agg (rpM x v s).toArray] w fun e w' => e = .returned (.int .i64 (verE key user x)) ∧ Fr [] w w' := by
  refine calls_of (args := [.string key, .string user, .agg (rpM x v s).toArray]) ([]) ([]) ([rpF x v s]) Tryd.func8 rfl rfl (okFW (.cons W.fa .nil)) ?_
  refine J_seq ?_
  refine J_region ?_
  refine L_box rfl rfl rfl rfl rfl (fun b0 => ?_)
  refine L_v rfl rfl rfl (V_assign rfl rfl) ?_
  refine L_nil ?_
  change J _ _ _ _
  refine J_seq ?_
  refine J_region ?_
  refine L_v rfl rfl rfl (V_move rfl rfl) ?_
  refine L_v rfl rfl rfl (V_fieldAddr rfl rfl Tryd.underlying34 rfl sz32ph rfl) ?_
  refine L_v rfl rfl rfl (V_loadT 0 (vs := sgM x.head) rfl rfl rfl Tryd.underlying32 rfl sz32ph (by kernel_rfl) (by kernel_rfl)) ?_
  refine L_callV rfl rfl rfl rfl rfl rfl tx22ph (fun w1 hw => rchk_m key x.head w1 W.sg (TabK.later hw (by simp) hR)) ?_
  refine L_v rfl rfl rfl (V_assign rfl rfl) ?_
  refine L_nil ?_
  change J _ _ _ _
  refine J_seq ?_
  refine J_seq ?_
  refine J_region ?_
  refine L_v rfl rfl rfl (V_move rfl rfl) ?_
  refine L_v rfl rfl rfl (V_neq rfl rfl rfl rfl) ?_
  refine L_nil ?_
  change J _ _ _ _
  refine J_cond rfl (fun h1 => ?_) (fun h1 => ?_)
  ·
    first | (have h1 := of_decide_eq_true h1) | (have h1 := of_decide_eq_false h1) | skip
    refine J_seq ?_
    refine J_region ?_
    refine L_v rfl rfl rfl (V_move rfl rfl) ?_
    refine L_v rfl rfl rfl (V_assign rfl rfl) ?_
    refine L_nil ?_
    change J _ _ _ _
    refine J_ret ?_
    change Kret _ _ _ Exit.ret _
    refine ret1 rfl rfl (RV_t rfl) ?_
    exact fun w' h => ⟨congrArg (fun b => Ending.returned (Value.int .i64 b)) (by unfold verE; exact (if_pos h1).symm), h.fr⟩
  ·
    first | (have h1 := of_decide_eq_true h1) | (have h1 := of_decide_eq_false h1) | skip
    refine J_skip ?_
    change J _ _ _ _
    refine J_seq ?_
    refine J_seq ?_
    refine J_regionO (.pure 0 (.pure 1 (.one 2 (.pure 3 (.pure 4 (.pure 5 (.pure 6 (.pure 7 (.pure 8 (.pure 9 (.pure 10 (.pure 13 (.pure 14 (.pure 15 (.one 11 (.pure 12 (.pure 16 (.pure 17 (.nil))))))))))))))))))) _ _ (Pk.refl _) (fun f hf => hf) rfl rfl (by kernel_rfl) ?_
    refine LO_v rfl rfl rfl rfl (V_fieldAddr rfl rfl Tryd.underlying34 rfl sz23ph rfl) ?_
    refine LO_v rfl rfl rfl rfl (V_load1 0 rfl rfl rfl Tryd.underlying23 rfl (by rfl)) ?_
    refine LO_callV rfl rfl rfl rfl rfl rfl rfl rfl tx23ph (fun w1 hw => ish_w v.1 x.vers.length v.2 x.vers w1 rfl (RpW.vs (hw.fa 0 rfl)) W.n1) (Pk.refl _) (fun f hf => hf) ?_
    refine LO_v rfl rfl rfl rfl (V_not rfl rfl rfl) ?_
    refine LO_v rfl rfl rfl rfl (V_move rfl rfl) ?_
    refine LO_split 22 rfl (fun h2 => ?_) (fun h2 => ?_)
    ·
      first | (have h2 := of_decide_eq_true h2) | (have h2 := of_decide_eq_false h2) | skip
      refine LO_skip rfl rfl rfl rfl rfl rfl rfl rfl ?_
      refine LO_skip rfl rfl rfl rfl rfl rfl rfl rfl ?_
      refine LO_skip rfl rfl rfl rfl rfl rfl rfl rfl ?_
      refine LO_skip rfl rfl rfl rfl rfl rfl rfl rfl ?_
      refine LO_skip rfl rfl rfl rfl rfl rfl rfl rfl ?_
      refine LO_skip rfl rfl rfl rfl rfl rfl rfl rfl ?_
      refine LO_skip rfl rfl rfl rfl rfl rfl rfl rfl ?_
      refine LO_skip rfl rfl rfl rfl rfl rfl rfl rfl ?_
      refine LO_skip rfl rfl rfl rfl rfl rfl rfl rfl ?_
      refine LO_skipL rfl rfl rfl rfl rfl rfl rfl rfl (Pk.refl _) (fun f hf => hf) ?_
      refine LO_skip rfl rfl rfl rfl rfl rfl rfl rfl ?_
      refine LO_skip rfl rfl rfl rfl rfl rfl rfl rfl ?_
      first | refine LO_v rfl rfl rfl rfl (V_pickT rfl rfl rfl) ?_ | refine LO_v rfl rfl rfl rfl (V_pickF rfl rfl rfl) ?_
      refine LO_nil ?_
      change J _ _ _ _
      refine J_true rfl ?_
      refine J_seq ?_
      refine J_region ?_
      refine L_v rfl rfl rfl (V_assign rfl rfl) ?_
      refine L_nil ?_
      change J _ _ _ _
      refine J_ret ?_
      change Kret _ _ _ Exit.ret _
      refine ret1 rfl rfl (RV_t rfl) ?_
      exact fun w' h => ⟨congrArg (fun b => Ending.returned (Value.int .i64 b)) (by unfold verE; rw [if_neg h1, if_neg (fun h => by rw [h.1] at h2; cases h2)]), h.fr⟩
    ·
      first | (have h2 := of_decide_eq_true h2) | (have h2 := of_decide_eq_false h2) | skip
      refine LO_wv rfl rfl rfl rfl rfl rfl rfl (V_fieldAddr rfl rfl Tryd.underlying34 rfl sz23ph rfl) ?_
      refine LO_wv rfl rfl rfl rfl rfl rfl rfl (V_load1 0 rfl rfl rfl Tryd.underlying23 rfl (by rfl)) ?_
      refine LO_wv rfl rfl rfl rfl rfl rfl rfl (V_fieldAddr rfl rfl Tryd.underlying34 rfl sz32ph rfl) ?_
      refine LO_wv rfl rfl rfl rfl rfl rfl rfl (V_fieldAddr rfl rfl Tryd.underlying32 rfl sz30ph rfl) ?_
      refine LO_wv rfl rfl rfl rfl rfl rfl rfl (V_fieldAddr rfl rfl Tryd.underlying30 rfl sz3ph rfl) ?_
      refine LO_wv rfl rfl rfl rfl rfl rfl rfl (V_load1 0 rfl rfl rfl Tryd.underlying3 rfl (by rfl)) ?_
      refine LO_wv rfl rfl rfl rfl rfl rfl rfl (V_fieldAddr rfl rfl Tryd.underlying34 rfl sz23ph rfl) ?_
      refine LO_wv rfl rfl rfl rfl rfl rfl rfl (V_load1 0 rfl rfl rfl Tryd.underlying23 rfl (by rfl)) ?_
      refine LO_wv rfl rfl rfl rfl rfl rfl rfl (V_len rfl rfl Tryd.underlying23 rfl) ?_
      refine LO_sw rfl rfl rfl rfl rfl rfl (S_callO rfl rfl rfl rfl rfl tx24ph (fun w1 hw => rat_w v.1 x.vers.length v.2 x.vers w1 rfl (RpW.vs (hw.fa 0 rfl)) W.n1 x.head.1.1) (fun q1 hq1 => ⟨(Pk.app (Pk.refl _) _), fun f hf => hf, ?_⟩))
      refine LO_wv rfl rfl rfl rfl rfl rfl rfl (V_len rfl rfl Tryd.underlying23 rfl) ?_
      refine LO_wv rfl rfl rfl rfl rfl rfl rfl (V_neq rfl rfl rfl rfl) ?_
      first | refine LO_v rfl rfl rfl rfl (V_pickT rfl rfl rfl) ?_ | refine LO_v rfl rfl rfl rfl (V_pickF rfl rfl rfl) ?_
      refine LO_nil ?_
      change J _ _ _ _
      refine J_cond rfl (fun h3 => ?_) (fun h3 => ?_)
      ·
        first | (have h3 := of_decide_eq_true h3) | (have h3 := of_decide_eq_false h3) | skip
        refine J_seq ?_
        refine J_region ?_
        refine L_v rfl rfl rfl (V_assign rfl rfl) ?_
        refine L_nil ?_
        change J _ _ _ _
        refine J_ret ?_
        change Kret _ _ _ Exit.ret _
        refine ret1 rfl rfl (RV_t rfl) ?_
        exact fun w' h => ⟨congrArg (fun b => Ending.returned (Value.int .i64 b)) (by unfold verE; rw [if_neg h1, if_neg (fun h => h3 (by rw [atV_cnt h.1, List.length_take]; have := h.2; omega))]), h.fr⟩
      ·
        first | (have h3 := of_decide_eq_true h3) | (have h3 := of_decide_eq_false h3) | skip
        have hH : isH x.vers = true := by simpa using h2
        have hC : cntV x.vers x.head.1.1 = x.vers.length := by
          have h9 := Classical.not_not.1 h3
          rw [atV_cnt hH, List.length_take] at h9
          have := cnt_le x.vers x.head.1.1
          omega
        refine J_skip ?_
        change J _ _ _ _
        refine J_seq ?_
        refine J_conv [(b0, row 34 (rpM x v s))] [rpF x v s] (fun w1 hw => hw.sub (List.sublist_append_left _ _) (fun f hf => hf)) ?_
        refine J_region ?_
        refine L_v rfl rfl rfl (V_buildE (v := .agg (cmM cm0).toArray) rfl rfl (fun w => by kernel_rfl)) ?_
        refine L_alloc rfl rfl rfl rfl z54ph (fun b1 => ?_)
        refine L_storeW 1 rfl rfl rfl rfl rfl rfl (szd sz54ph (by kernel_rfl)) (all_one (by kernel_rfl)) (by kernel_rfl) ?_
        refine L_nil ?_
        change J _ _ _ _
        refine J_seq ?_
        refine J_seq ?_
        refine J_region ?_
        refine L_v rfl rfl rfl (V_fieldAddr rfl rfl Tryd.underlying34 rfl sz23ph rfl) ?_
        refine L_v rfl rfl rfl (V_load1 0 rfl rfl rfl Tryd.underlying23 rfl (by rfl)) ?_
        refine L_v rfl rfl rfl (V_len rfl rfl Tryd.underlying23 rfl) ?_
        refine L_v rfl rfl rfl (V_gtr rfl rfl rfl rfl) ?_
        refine L_nil ?_
        change J _ _ _ _
        refine J_cond rfl (fun h4 => ?_) (fun h4 => ?_)
        ·
          first | (have h4 := of_decide_eq_true h4) | (have h4 := of_decide_eq_false h4) | skip
          refine J_seq ?_
          refine J_region ?_
          refine L_v rfl rfl rfl (V_fieldAddr rfl rfl Tryd.underlying34 rfl sz23ph rfl) ?_
          refine L_v rfl rfl rfl (V_load1 0 rfl rfl rfl Tryd.underlying23 rfl (by rfl)) ?_
          refine L_callV rfl rfl rfl rfl rfl rfl tx25ph (fun w1 hw => rvdig_d x.vers v w1 (RpW.vs (hw.fa 0 rfl)) W.cap hH (TabK.later hw (by simp) hR)) ?_
          refine L_v rfl rfl rfl (V_move rfl rfl) ?_
          refine L_v rfl rfl rfl (V_extract rfl rfl rfl) ?_
          refine L_v rfl rfl rfl (V_extract rfl rfl rfl) ?_
          refine L_alloc rfl rfl rfl rfl z26ph (fun b2 => ?_)
          refine L_storeW 2 rfl rfl rfl rfl rfl rfl (szd sz26ph (by kernel_rfl)) (all_one (by kernel_rfl)) (by kernel_rfl) ?_
          refine L_v rfl rfl rfl (V_assign rfl rfl) ?_
          refine L_nil ?_
          change J _ _ _ _
          refine J_region ?_
          refine L_v rfl rfl rfl (V_loadT 2 (vs := dgM (verD x.vers)) rfl rfl rfl Tryd.underlying26 rfl sz26ph (by kernel_rfl) (by kernel_rfl)) ?_
          refine L_v rfl rfl rfl (V_buildE (v := .agg (cmM (true, verD x.vers)).toArray) rfl rfl (fun w => by kernel_rfl)) ?_
          refine L_storeW 1 rfl rfl rfl rfl rfl rfl (szd sz54ph (by kernel_rfl)) (all_one (by kernel_rfl)) (by kernel_rfl) ?_
          refine L_nil ?_
          change J _ _ _ _
          refine J_seq ?_
          refine J_conv [(b0, row 34 (rpM x v s)), (b1, row 54 (cmM (clm x.vers)))] [rpF x v s] (fun w1 hw => by rw [show clm x.vers = (true, verD x.vers) from if_pos (by omega)]; exact hw.sub (List.Sublist.cons_cons _ (List.Sublist.cons_cons _ (List.nil_sublist _))) (fun f hf => hf)) ?_
          refine J_regionO (.pure 0 (.pure 1 (.pure 2 (.pure 3 (.pure 4 (.pure 6 (.pure 7 (.pure 8 (.one 5 (.one 9 (.pure 10 (.nil)))))))))))) _ _ (Pk.refl _) (fun f hf => hf) rfl rfl (by kernel_rfl) ?_
          refine LO_v rfl rfl rfl rfl (V_fieldAddr rfl rfl Tryd.underlying34 rfl sz32ph rfl) ?_
          refine LO_v rfl rfl rfl rfl (V_fieldAddr rfl rfl Tryd.underlying32 rfl sz30ph rfl) ?_
          refine LO_v rfl rfl rfl rfl (V_fieldAddr rfl rfl Tryd.underlying30 rfl sz26ph rfl) ?_
          refine LO_v rfl rfl rfl rfl (V_loadT 0 (vs := dgM x.head.1.2.1) rfl rfl rfl Tryd.underlying26 rfl sz26ph (by kernel_rfl) (by kernel_rfl)) ?_
          refine LO_v rfl rfl rfl rfl (V_move rfl rfl) ?_
          refine LO_v rfl rfl rfl rfl (V_loadT 1 (vs := cmM (clm x.vers)) rfl rfl rfl Tryd.underlying54 rfl sz54ph (by kernel_rfl) (by kernel_rfl)) ?_
          refine LO_v rfl rfl rfl rfl (V_fieldAddr rfl rfl Tryd.underlying34 rfl sz28ph rfl) ?_
          refine LO_v rfl rfl rfl rfl (V_loadT 0 (vs := pfM x.pf s) rfl rfl rfl Tryd.underlying28 rfl sz28ph (by kernel_rfl) (by kernel_rfl)) ?_
          refine LO_callV rfl rfl rfl rfl rfl rfl rfl rfl tx27ph (fun w1 hw => rof_d user w1 (TabK.later hw (by simp) hR) hu) (Pk.refl _) (fun f hf => hf) ?_
          refine LO_callV rfl rfl rfl rfl rfl rfl rfl rfl tx26ph (fun w1 hw => rpCheck_w (pathD user) (clm x.vers) x.pf s x.head.1.2.1 w1 (pathD_b _) (clm_b _) W.sb W.p1 W.p2 (hw.fa 0 rfl).r (by have := W.n2; omega) (TabK.later hw (by simp) hR)) (Pk.refl _) (fun f hf => hf) ?_
          refine LO_v rfl rfl rfl rfl (V_assign rfl rfl) ?_
          refine LO_nil ?_
          change J _ _ _ _
          refine J_ret ?_
          change Kret _ _ _ Exit.ret _
          refine ret1 rfl rfl (RV_t rfl) ?_
          exact fun w' h => ⟨congrArg (fun b => Ending.returned (Value.int .i64 b)) (by unfold verE; rw [if_neg h1, if_pos ⟨hH, hC⟩]), h.fr⟩
        ·
          first | (have h4 := of_decide_eq_true h4) | (have h4 := of_decide_eq_false h4) | skip
          refine J_skip ?_
          change J _ _ _ _
          refine J_seq ?_
          refine J_conv [(b0, row 34 (rpM x v s)), (b1, row 54 (cmM (clm x.vers)))] [rpF x v s] (fun w1 hw => by rw [show clm x.vers = cm0 from if_neg (by omega)]; exact hw.sub (List.Sublist.cons_cons _ (List.Sublist.cons_cons _ (List.nil_sublist _))) (fun f hf => hf)) ?_
          refine J_regionO (.pure 0 (.pure 1 (.pure 2 (.pure 3 (.pure 4 (.pure 6 (.pure 7 (.pure 8 (.one 5 (.one 9 (.pure 10 (.nil)))))))))))) _ _ (Pk.refl _) (fun f hf => hf) rfl rfl (by kernel_rfl) ?_
          refine LO_v rfl rfl rfl rfl (V_fieldAddr rfl rfl Tryd.underlying34 rfl sz32ph rfl) ?_
          refine LO_v rfl rfl rfl rfl (V_fieldAddr rfl rfl Tryd.underlying32 rfl sz30ph rfl) ?_
          refine LO_v rfl rfl rfl rfl (V_fieldAddr rfl rfl Tryd.underlying30 rfl sz26ph rfl) ?_
          refine LO_v rfl rfl rfl rfl (V_loadT 0 (vs := dgM x.head.1.2.1) rfl rfl rfl Tryd.underlying26 rfl sz26ph (by kernel_rfl) (by kernel_rfl)) ?_
          refine LO_v rfl rfl rfl rfl (V_move rfl rfl) ?_
          refine LO_v rfl rfl rfl rfl (V_loadT 1 (vs := cmM (clm x.vers)) rfl rfl rfl Tryd.underlying54 rfl sz54ph (by kernel_rfl) (by kernel_rfl)) ?_
          refine LO_v rfl rfl rfl rfl (V_fieldAddr rfl rfl Tryd.underlying34 rfl sz28ph rfl) ?_
          refine LO_v rfl rfl rfl rfl (V_loadT 0 (vs := pfM x.pf s) rfl rfl rfl Tryd.underlying28 rfl sz28ph (by kernel_rfl) (by kernel_rfl)) ?_
          refine LO_callV rfl rfl rfl rfl rfl rfl rfl rfl tx27ph (fun w1 hw => rof_d user w1 (TabK.later hw (by simp) hR) hu) (Pk.refl _) (fun f hf => hf) ?_
          refine LO_callV rfl rfl rfl rfl rfl rfl rfl rfl tx26ph (fun w1 hw => rpCheck_w (pathD user) (clm x.vers) x.pf s x.head.1.2.1 w1 (pathD_b _) (clm_b _) W.sb W.p1 W.p2 (hw.fa 0 rfl).r (by have := W.n2; omega) (TabK.later hw (by simp) hR)) (Pk.refl _) (fun f hf => hf) ?_
          refine LO_v rfl rfl rfl rfl (V_assign rfl rfl) ?_
          refine LO_nil ?_
          change J _ _ _ _
          refine J_ret ?_
          change Kret _ _ _ Exit.ret _
          refine ret1 rfl rfl (RV_t rfl) ?_
          exact fun w' h => ⟨congrArg (fun b => Ending.returned (Value.int .i64 b)) (by unfold verE; rw [if_neg h1, if_pos ⟨hH, hC⟩]), h.fr⟩

end Go.Proofs.YtfdmjjhgdbpfeaaDoor
