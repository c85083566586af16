/- Is it the same directory? -/
import Derived.Test.YtfgcfjojpakpjaaGreatWOwn
import Derived.Test.YtfgcfjojpakpjaaGreatWGets3
set_option linter.unusedVariables false
set_option linter.unusedSimpArgs false
set_option maxRecDepth 100000
namespace Go.Proofs.YtfgcfjojpakpjaaGreat
open Go.Sx
theorem egHd : Tryz.prog.eqGuardType Tryz.prog.depth 47 = false := by kernel_rfl
theorem egVr : Tryz.prog.eqGuardType Tryz.prog.depth 109 = false := by kernel_rfl
theorem egSe : Tryz.prog.eqGuardType Tryz.prog.depth 106 = false := by kernel_rfl
theorem eqVr (x : Vr) (w : World) : (Op.equal 109 (.agg (vrV x).toArray) (.agg (vrV x).toArray)).run Tryz.prog w = .ok true w := by
  show (Op.equalIn (9999 + 1) _ _ _).run _ w = _
  rw [run_eqStruct w 9999 _ _ (by kernel_rfl) (by kernel_rfl) (spec := [(true, 3, 0), (true, 107, 1), (true, 9, 2)]) (by kernel_rfl)]
  rw [eqF_one (run_part1 (cs := vrV x) (v := .int .i64 x.1) Tryz.underlying3 rfl rfl) (run_part1 (cs := vrV x) (v := .int .i64 x.1) Tryz.underlying3 rfl rfl) (run_equalIn_int w 9998 _ _ _ x.1 x.1 Tryz.underlying3), beq_self_eq_true, if_pos rfl]
  rw [eqF_one (run_part1 (cs := vrV x) (v := .int .i64 x.2.1) Tryz.underlying107 rfl rfl) (run_part1 (cs := vrV x) (v := .int .i64 x.2.1) Tryz.underlying107 rfl rfl) (run_equalIn_int w 9998 _ _ _ x.2.1 x.2.1 Tryz.underlying107), beq_self_eq_true, if_pos rfl]
  rw [eqF_one (run_part1 (cs := vrV x) (v := .string x.2.2) Tryz.underlying9 rfl rfl) (run_part1 (cs := vrV x) (v := .string x.2.2) Tryz.underlying9 rfl rfl) (run_equalIn_str w 9998 x.2.2 x.2.2 Tryz.underlying9), decide_eq_true rfl, if_pos rfl]
  rfl
theorem eqSe (x : Se) (w : World) : (Op.equal 106 (.agg (seV x).toArray) (.agg (seV x).toArray)).run Tryz.prog w = .ok true w := by
  show (Op.equalIn (9999 + 1) _ _ _).run _ w = _
  rw [run_eqStruct w 9999 _ _ (by kernel_rfl) (by kernel_rfl) (spec := [(true, 3, 0), (true, 3, 1), (true, 28, 2), (true, 3, 3)]) (by kernel_rfl)]
  rw [eqF_one (run_part1 (cs := seV x) (v := .int .i64 x.1) Tryz.underlying3 rfl rfl) (run_part1 (cs := seV x) (v := .int .i64 x.1) Tryz.underlying3 rfl rfl) (run_equalIn_int w 9998 _ _ _ x.1 x.1 Tryz.underlying3), beq_self_eq_true, if_pos rfl]
  rw [eqF_one (run_part1 (cs := seV x) (v := .int .i64 x.2.1) Tryz.underlying3 rfl rfl) (run_part1 (cs := seV x) (v := .int .i64 x.2.1) Tryz.underlying3 rfl rfl) (run_equalIn_int w 9998 _ _ _ x.2.1 x.2.1 Tryz.underlying3), beq_self_eq_true, if_pos rfl]
  rw [eqF_one (run_part1 (cs := seV x) (v := .int .i64 x.2.2.1) Tryz.underlying28 rfl rfl) (run_part1 (cs := seV x) (v := .int .i64 x.2.2.1) Tryz.underlying28 rfl rfl) (run_equalIn_int w 9998 _ _ _ x.2.2.1 x.2.2.1 Tryz.underlying28), beq_self_eq_true, if_pos rfl]
  rw [eqF_one (run_part1 (cs := seV x) (v := .int .i64 x.2.2.2) Tryz.underlying3 rfl rfl) (run_part1 (cs := seV x) (v := .int .i64 x.2.2.2) Tryz.underlying3 rfl rfl) (run_equalIn_int w 9998 _ _ _ x.2.2.2 x.2.2.2 Tryz.underlying3), beq_self_eq_true, if_pos rfl]
  rfl
theorem us_eq {us us2 : List (Us × Value)} {i : Nat} (h : us2.map Prod.fst = us.map Prod.fst) (hi : i < us.length) : (us2.getD i UD).1 = (us.getD i UD).1 := by
  have hl : us2.length = us.length := by simpa using congrArg List.length h
  rw [← us_get hi, ← us_get (by omega), h]
theorem us_s2 {us us2 : List (Us × Value)} {i : Nat} (h : us2.map Prod.fst = us.map Prod.fst) (hi : i < us.length) : (us2.map usW).flatten[((i : Nat) : Int).toNat * (1 + 1)]? = some (.string (us.getD i UD).1.1) := by
  have hl : us2.length = us.length := by simpa using congrArg List.length h
  rw [us_s (by omega), us_eq h hi]
theorem us_slG {fs : List Fact} {cx : Cx} {m : Mem} {us : List (Us × Value)} {w : World} {i : Nat} {ya : Option Addr} {yc : Nat} {x : Us} (hw : OkW cx m fs w) (hmem : ∀ f ∈ us.map usF, f ∈ fs) (h : i < us.length) (hx : (us.getD i UD).1 = x) (hy : (us.getD i UD).2 = .slice ya x.2.length yc) :
    SlC 3 w (.slice ya x.2.length yc) x.2.length (x.2.map vrV).flatten := by
  have := (hw.facts _ (hmem _ (us_f h))).1
  rw [← hx] at hy ⊢
  rw [← hy]
  exact this
theorem sz3c : (Tryz.prog.info? 3).map (·.size) = some 1 := by kernel_rfl
theorem sz9c : (Tryz.prog.info? 9).map (·.size) = some 1 := by kernel_rfl
theorem sz47c : (Tryz.prog.info? 47).map (·.size) = some 65 := by kernel_rfl
theorem sz59c : (Tryz.prog.info? 59).map (·.size) = some 1 := by kernel_rfl
theorem sz60c : (Tryz.prog.info? 60).map (·.size) = some 1 := by kernel_rfl
theorem sz61c : (Tryz.prog.info? 61).map (·.size) = some 1 := by kernel_rfl
theorem sz101c : (Tryz.prog.info? 101).map (·.size) = some 1 := by kernel_rfl
theorem sz103c : (Tryz.prog.info? 103).map (·.size) = some 2 := by kernel_rfl
theorem sz106c : (Tryz.prog.info? 106).map (·.size) = some 4 := by kernel_rfl
theorem sz109c : (Tryz.prog.info? 109).map (·.size) = some 3 := by kernel_rfl
theorem tx57c : Txt Tryz.prog 57 := txt_of Tryz.func57 rfl (by kernel_rfl)

theorem samev_t (a b : Option Addr) (c d : Nat) (l : List Vr) (w : World) (hu : SlC 3 w (.slice a l.length c) l.length (l.map vrV).flatten) (hv : SlC 3 w (.slice b l.length d) l.length (l.map vrV).flatten) (hB : l.length ≤ 1099511627776) :
    Calls Tryz.prog 57 #[.slice a l.length c, .slice b l.length d] w fun e w' => e = .returned (.bool true) ∧ Fr [] w w' := by
  refine calls_of (args := [.slice a l.length c, .slice b l.length d]) ([]) ([]) ([factC 3 (.slice a l.length c) l.length (l.map vrV).flatten, factC 3 (.slice b l.length d) l.length (l.map vrV).flatten]) Tryz.func57 rfl rfl (okFW (.cons ⟨hu, factC_lt hu⟩ (.cons ⟨hv, factC_lt hv⟩ .nil))) ?_
  refine J_seq ?_
  refine J_region ?_
  refine L_v rfl rfl rfl (V_assign rfl rfl) ?_
  refine L_nil ?_
  change J _ _ _ _
  refine J_seq ?_
  refine J_seq ?_
  refine J_region ?_
  refine L_v rfl rfl rfl (V_move rfl rfl) ?_
  refine L_v rfl rfl rfl (V_len rfl rfl Tryz.underlying101 rfl) ?_
  refine L_v rfl rfl rfl (V_move rfl rfl) ?_
  refine L_v rfl rfl rfl (V_len rfl rfl Tryz.underlying101 rfl) ?_
  refine L_v rfl rfl rfl (V_neq rfl rfl rfl (by first | exact decide_eq_false (fun h => h rfl) | exact decide_eq_true (by omega) | exact decide_eq_false (by omega) | rfl)) ?_
  refine L_nil ?_
  change J _ _ _ _
  refine J_false rfl ?_
  refine J_skip ?_
  change J _ _ _ _
  refine J_seq ?_
  refine J_seq ?_
  refine J_region ?_
  refine L_v rfl rfl rfl (V_assign rfl rfl) ?_
  refine L_nil ?_
  change J _ _ _ _
  refine J_block ?_
  refine J_loop (X := Nat) (fun i => { env := [(0, .slice a l.length c), (1, .slice b l.length d), (5, .int .i64 (i : Int))], mem := [], facts := [factC 3 (.slice a l.length c) l.length (l.map vrV).flatten, factC 3 (.slice b l.length d) l.length (l.map vrV).flatten] }) (fun i => i ≤ l.length) (fun i => l.length - i) 0 (Nat.zero_le _) ⟨⟨rfl, rfl, rfl, trivial⟩, List.Sublist.refl _, fun f hf => hf, rfl⟩ ?_
  rintro i hin
  refine J_seq ?_
  refine J_seq ?_
  refine J_region ?_
  refine L_v rfl rfl rfl (V_move rfl rfl) ?_
  refine L_v rfl rfl rfl (V_move rfl rfl) ?_
  refine L_v rfl rfl rfl (V_len rfl rfl Tryz.underlying101 rfl) ?_
  refine L_v rfl rfl rfl (V_lss rfl rfl rfl (by first | exact decide_eq_false (fun h => h rfl) | exact decide_eq_true (by omega) | exact decide_eq_false (by omega) | rfl)) ?_
  refine L_nil ?_
  change J _ _ _ _
  refine J_cond rfl (fun h1 => ?_) (fun h1 => ?_)
  ·
    first | (have h1 := of_decide_eq_true h1) | (have h1 := of_decide_eq_false h1) | skip
    have hi : i < l.length := by omega
    refine J_skip ?_
    change J _ _ _ _
    refine J_seq ?_
    refine J_block ?_
    refine J_seq ?_
    refine J_regionQ rfl (by kernel_rfl) ?_
    refine LQ_v rfl rfl rfl (V_move rfl rfl) ?_
    refine LQ_v rfl rfl rfl (V_move rfl rfl) ?_
    refine LQ_v rfl rfl rfl (V_indexC rfl rfl rfl Tryz.underlying101 sz109c (fun w hw => fC hw 0 rfl) (by omega) (by omega)) ?_
    refine LQ_v rfl rfl rfl (V_loadCN (vs := vrV (l.getD i v0')) rfl rfl Tryz.underlying109 rfl sz109c (fun w hw => fC hw 0 rfl) (by exact Nat.zero_lt_succ _) (rows_v v0' (sz := 2) (fun _ => rfl) hi)) ?_
    refine LQ_v rfl rfl rfl (V_move rfl rfl) ?_
    refine LQ_v rfl rfl rfl (V_move rfl rfl) ?_
    refine LQ_v rfl rfl rfl (V_indexC rfl rfl rfl Tryz.underlying101 sz109c (fun w hw => fC hw 1 rfl) (by omega) (by omega)) ?_
    refine LQ_v rfl rfl rfl (V_loadCN (vs := vrV (l.getD i v0')) rfl rfl Tryz.underlying109 rfl sz109c (fun w hw => fC hw 1 rfl) (by exact Nat.zero_lt_succ _) (rows_v v0' (sz := 2) (fun _ => rfl) hi)) ?_
    refine LQ_v rfl rfl rfl (V_neAgg rfl rfl rfl egVr (fun w => eqVr _ w) rfl) ?_
    refine LQ_nil ?_
    change J _ _ _ _
    refine J_false rfl ?_
    refine J_skip ?_
    change J _ _ _ _
    refine J_region ?_
    refine L_v rfl rfl rfl (V_move rfl rfl) ?_
    refine L_v rfl rfl rfl (V_add rfl rfl rfl (by first | exact Go.IntWalk.i64_in _ (by omega) | rfl)) ?_
    refine L_v rfl rfl rfl (V_assign rfl rfl) ?_
    refine L_nil ?_
    exact ⟨i + 1, by show i + 1 ≤ l.length; omega, by show l.length - (i + 1) < l.length - i; omega, ⟨rfl, rfl, rfl, trivial⟩, List.Sublist.refl _, fun f hf => hf, rfl⟩
  ·
    first | (have h1 := of_decide_eq_true h1) | (have h1 := of_decide_eq_false h1) | skip
    refine J_exit ?_
    change J _ _ _ _
    refine J_seq ?_
    refine J_region ?_
    refine L_v rfl rfl rfl (V_assign rfl rfl) ?_
    refine L_nil ?_
    change J _ _ _ _
    refine J_ret ?_
    change Kret _ _ _ Exit.ret _
    refine ret1 rfl rfl (RV_t rfl) ?_
    exact fun w' h => ⟨rfl, h.fr⟩

theorem sfx {w : World} {a b c d e f : Fact} {x y : List Fact} (h1 : FW w (a :: b :: c :: x)) (h2 : FW w (d :: e :: f :: y)) : FW w ([a, b, c, d, e, f] ++ (x ++ y)) := by
  intro g hg
  simp only [List.mem_append, List.mem_cons, List.not_mem_nil, or_false] at hg
  rcases hg with (rfl | rfl | rfl | rfl | rfl | rfl) | hg | hg
  · exact h1 _ (List.mem_cons_self ..)
  · exact h1 _ (List.mem_cons_of_mem _ (List.mem_cons_self ..))
  · exact h1 _ (List.mem_cons_of_mem _ (List.mem_cons_of_mem _ (List.mem_cons_self ..)))
  · exact h2 _ (List.mem_cons_self ..)
  · exact h2 _ (List.mem_cons_of_mem _ (List.mem_cons_self ..))
  · exact h2 _ (List.mem_cons_of_mem _ (List.mem_cons_of_mem _ (List.mem_cons_self ..)))
  · exact h1 _ (List.mem_cons_of_mem _ (List.mem_cons_of_mem _ (List.mem_cons_of_mem _ hg)))
  · exact h2 _ (List.mem_cons_of_mem _ (List.mem_cons_of_mem _ (List.mem_cons_of_mem _ hg)))
set_option maxHeartbeats 2000000 in
theorem samedr_t (va1 va2 va3 wa1 wa2 wa3 : Option Addr) (vc1 vc2 vc3 wc1 wc2 wc3 : Nat) (e0 : Int) (us us2 : List (Us × Value)) (hs : List Hd) (ss : List Se) (w : World) (h2 : us2.map Prod.fst = us.map Prod.fst) (hx : FW w (factC 2 (.slice va1 us.length vc1) us.length (us.map usW).flatten :: factC 65 (.slice va2 hs.length vc2) hs.length (hs.map hdV).flatten :: factC 4 (.slice va3 ss.length vc3) ss.length (ss.map seV).flatten :: us.map usF)) (hy2 : FW w (factC 2 (.slice wa1 us2.length wc1) us2.length (us2.map usW).flatten :: factC 65 (.slice wa2 hs.length wc2) hs.length (hs.map hdV).flatten :: factC 4 (.slice wa3 ss.length wc3) ss.length (ss.map seV).flatten :: us2.map usF)) (hsz : ∀ p ∈ us, p.1.2.length ≤ 1099511627776) (hbu : us.length ≤ 1099511627776) (hbh : hs.length ≤ 1099511627776) (hbs : ss.length ≤ 1099511627776) :
    Calls Tryz.prog 21 #[.agg (drV e0 (.slice va1 us.length vc1) (.slice va2 hs.length vc2) (.slice va3 ss.length vc3)).toArray, .agg (drV e0 (.slice wa1 us2.length wc1) (.slice wa2 hs.length wc2) (.slice wa3 ss.length wc3)).toArray] w fun e w' => e = .returned (.bool true) ∧ Fr [] w w' := by
  have hl2 : us2.length = us.length := by simpa using congrArg List.length h2
  refine calls_of (args := [.agg (drV e0 (.slice va1 us.length vc1) (.slice va2 hs.length vc2) (.slice va3 ss.length vc3)).toArray, .agg (drV e0 (.slice wa1 us2.length wc1) (.slice wa2 hs.length wc2) (.slice wa3 ss.length wc3)).toArray]) ([]) ([]) ([factC 2 (.slice va1 us.length vc1) us.length (us.map usW).flatten, factC 65 (.slice va2 hs.length vc2) hs.length (hs.map hdV).flatten, factC 4 (.slice va3 ss.length vc3) ss.length (ss.map seV).flatten, factC 2 (.slice wa1 us2.length wc1) us2.length (us2.map usW).flatten, factC 65 (.slice wa2 hs.length wc2) hs.length (hs.map hdV).flatten, factC 4 (.slice wa3 ss.length wc3) ss.length (ss.map seV).flatten] ++ (us.map usF ++ us2.map usF)) Tryz.func21 rfl rfl (okFW (sfx hx hy2)) ?_
  refine J_seq ?_
  refine J_region ?_
  refine L_box rfl rfl rfl rfl rfl (fun b0 => ?_)
  refine L_box rfl rfl rfl rfl rfl (fun b1 => ?_)
  refine L_v rfl rfl rfl (V_assign rfl rfl) ?_
  refine L_nil ?_
  change J _ _ _ _
  refine J_seq ?_
  refine J_seq ?_
  refine J_region ?_
  refine L_v rfl rfl rfl (V_fieldAddr rfl rfl Tryz.underlying63 rfl sz3c rfl) ?_
  refine L_v rfl rfl rfl (V_load1 0 rfl rfl rfl Tryz.underlying3 rfl (by first | rfl | exact dg_get (by omega) (by omega))) ?_
  refine L_v rfl rfl rfl (V_fieldAddr rfl rfl Tryz.underlying63 rfl sz3c rfl) ?_
  refine L_v rfl rfl rfl (V_load1 1 rfl rfl rfl Tryz.underlying3 rfl (by first | rfl | exact dg_get (by omega) (by omega))) ?_
  refine L_v rfl rfl rfl (V_neq rfl rfl rfl (by first | exact decide_eq_false (fun h => h rfl) | exact decide_eq_true (by omega) | exact decide_eq_false (by omega) | rfl)) ?_
  refine L_v rfl rfl rfl (V_move rfl rfl) ?_
  refine L_wv rfl rfl rfl rfl rfl rfl (V_fieldAddr rfl rfl Tryz.underlying63 rfl sz59c rfl) ?_
  refine L_wv rfl rfl rfl rfl rfl rfl (V_load1 0 rfl rfl rfl Tryz.underlying59 rfl (by first | rfl | exact dg_get (by omega) (by omega))) ?_
  refine L_wv rfl rfl rfl rfl rfl rfl (V_len rfl rfl Tryz.underlying59 rfl) ?_
  refine L_wv rfl rfl rfl rfl rfl rfl (V_fieldAddr rfl rfl Tryz.underlying63 rfl sz59c rfl) ?_
  refine L_wv rfl rfl rfl rfl rfl rfl (V_load1 1 rfl rfl rfl Tryz.underlying59 rfl (by first | rfl | exact dg_get (by omega) (by omega))) ?_
  refine L_wv rfl rfl rfl rfl rfl rfl (V_len rfl rfl Tryz.underlying59 rfl) ?_
  refine L_wv rfl rfl rfl rfl rfl rfl (V_neq rfl rfl rfl (by first | exact decide_eq_false (fun h => h rfl) | exact decide_eq_true (by omega) | exact decide_eq_false (by omega) | rfl)) ?_
  first | refine L_v rfl rfl rfl (V_pickT rfl rfl rfl) ?_ | refine L_v rfl rfl rfl (V_pickF rfl rfl rfl) ?_
  refine L_v rfl rfl rfl (V_move rfl rfl) ?_
  refine L_wv rfl rfl rfl rfl rfl rfl (V_fieldAddr rfl rfl Tryz.underlying63 rfl sz60c rfl) ?_
  refine L_wv rfl rfl rfl rfl rfl rfl (V_load1 0 rfl rfl rfl Tryz.underlying60 rfl (by first | rfl | exact dg_get (by omega) (by omega))) ?_
  refine L_wv rfl rfl rfl rfl rfl rfl (V_len rfl rfl Tryz.underlying60 rfl) ?_
  refine L_wv rfl rfl rfl rfl rfl rfl (V_fieldAddr rfl rfl Tryz.underlying63 rfl sz60c rfl) ?_
  refine L_wv rfl rfl rfl rfl rfl rfl (V_load1 1 rfl rfl rfl Tryz.underlying60 rfl (by first | rfl | exact dg_get (by omega) (by omega))) ?_
  refine L_wv rfl rfl rfl rfl rfl rfl (V_len rfl rfl Tryz.underlying60 rfl) ?_
  refine L_wv rfl rfl rfl rfl rfl rfl (V_neq rfl rfl rfl (by first | exact decide_eq_false (fun h => h rfl) | exact decide_eq_true (by omega) | exact decide_eq_false (by omega) | rfl)) ?_
  first | refine L_v rfl rfl rfl (V_pickT rfl rfl rfl) ?_ | refine L_v rfl rfl rfl (V_pickF rfl rfl rfl) ?_
  refine L_v rfl rfl rfl (V_move rfl rfl) ?_
  refine L_wv rfl rfl rfl rfl rfl rfl (V_fieldAddr rfl rfl Tryz.underlying63 rfl sz61c rfl) ?_
  refine L_wv rfl rfl rfl rfl rfl rfl (V_load1 0 rfl rfl rfl Tryz.underlying61 rfl (by first | rfl | exact dg_get (by omega) (by omega))) ?_
  refine L_wv rfl rfl rfl rfl rfl rfl (V_len rfl rfl Tryz.underlying61 rfl) ?_
  refine L_wv rfl rfl rfl rfl rfl rfl (V_fieldAddr rfl rfl Tryz.underlying63 rfl sz61c rfl) ?_
  refine L_wv rfl rfl rfl rfl rfl rfl (V_load1 1 rfl rfl rfl Tryz.underlying61 rfl (by first | rfl | exact dg_get (by omega) (by omega))) ?_
  refine L_wv rfl rfl rfl rfl rfl rfl (V_len rfl rfl Tryz.underlying61 rfl) ?_
  refine L_wv rfl rfl rfl rfl rfl rfl (V_neq rfl rfl rfl (by first | exact decide_eq_false (fun h => h rfl) | exact decide_eq_true (by omega) | exact decide_eq_false (by omega) | rfl)) ?_
  first | refine L_v rfl rfl rfl (V_pickT rfl rfl rfl) ?_ | refine L_v rfl rfl rfl (V_pickF rfl rfl rfl) ?_
  refine L_nil ?_
  change J _ _ _ _
  refine J_false rfl ?_
  refine J_skip ?_
  change J _ _ _ _
  refine J_seq ?_
  refine J_seq ?_
  refine J_region ?_
  refine L_v rfl rfl rfl (V_assign rfl rfl) ?_
  refine L_nil ?_
  change J _ _ _ _
  refine J_block ?_
  refine J_loop (X := Nat) (fun i => { env := [(2, .pointer (some ⟨b0, 0, none⟩)), (3, .pointer (some ⟨b1, 0, none⟩)), (5, .int .i64 (i : Int))], mem := [(b0, row 63 (drV e0 (.slice va1 us.length vc1) (.slice va2 hs.length vc2) (.slice va3 ss.length vc3))), (b1, row 63 (drV e0 (.slice wa1 us2.length wc1) (.slice wa2 hs.length wc2) (.slice wa3 ss.length wc3)))], facts := [factC 2 (.slice va1 us.length vc1) us.length (us.map usW).flatten, factC 65 (.slice va2 hs.length vc2) hs.length (hs.map hdV).flatten, factC 4 (.slice va3 ss.length vc3) ss.length (ss.map seV).flatten, factC 2 (.slice wa1 us2.length wc1) us2.length (us2.map usW).flatten, factC 65 (.slice wa2 hs.length wc2) hs.length (hs.map hdV).flatten, factC 4 (.slice wa3 ss.length wc3) ss.length (ss.map seV).flatten] ++ (us.map usF ++ us2.map usF) }) (fun i => i ≤ us.length) (fun i => us.length - i) 0 (Nat.zero_le _) ⟨⟨rfl, rfl, rfl, trivial⟩, List.Sublist.refl _, fun f hf => hf, rfl⟩ ?_
  rintro i hin
  refine J_seq ?_
  refine J_seq ?_
  refine J_region ?_
  refine L_v rfl rfl rfl (V_move rfl rfl) ?_
  refine L_v rfl rfl rfl (V_fieldAddr rfl rfl Tryz.underlying63 rfl sz59c rfl) ?_
  refine L_v rfl rfl rfl (V_load1 0 rfl rfl rfl Tryz.underlying59 rfl (by first | rfl | exact dg_get (by omega) (by omega))) ?_
  refine L_v rfl rfl rfl (V_len rfl rfl Tryz.underlying59 rfl) ?_
  refine L_v rfl rfl rfl (V_lss rfl rfl rfl (by first | exact decide_eq_false (fun h => h rfl) | exact decide_eq_true (by omega) | exact decide_eq_false (by omega) | rfl)) ?_
  refine L_nil ?_
  change J _ _ _ _
  refine J_cond rfl (fun h1 => ?_) (fun h1 => ?_)
  ·
    first | (have h1 := of_decide_eq_true h1) | (have h1 := of_decide_eq_false h1) | skip
    have hi : i < us.length := by omega
    have hl2 : us2.length = us.length := by simpa using congrArg List.length h2
    obtain ⟨ya, yc, hy⟩ : ∃ a c, (us.getD i UD).2 = .slice a (us.getD i UD).1.2.length c := SlC.form (hx _ (List.mem_cons_of_mem _ (List.mem_cons_of_mem _ (List.mem_cons_of_mem _ (us_f hi))))).1
    obtain ⟨za, zc, hz⟩ : ∃ a c, (us2.getD i UD).2 = .slice a (us.getD i UD).1.2.length c := by
      have := SlC.form (hy2 _ (List.mem_cons_of_mem _ (List.mem_cons_of_mem _ (List.mem_cons_of_mem _ (us_f (i := i) (by omega)))))).1
      rwa [us_eq h2 hi] at this
    have hm9 := hsz _ (getD_mem (d := UD) hi)
    refine J_skip ?_
    change J _ _ _ _
    refine J_seq ?_
    refine J_block ?_
    refine J_seq ?_
    refine J_regionO (.pure 0 (.pure 1 (.pure 2 (.pure 3 (.pure 4 (.pure 5 (.pure 6 (.pure 7 (.pure 8 (.pure 9 (.pure 10 (.pure 11 (.pure 12 (.pure 13 (.pure 14 (.pure 15 (.pure 16 (.pure 17 (.pure 18 (.pure 19 (.pure 20 (.pure 21 (.pure 22 (.pure 23 (.pure 24 (.pure 25 (.one 26 (.pure 27 (.pure 28 (.nil)))))))))))))))))))))))))))))) ([(b0, row 63 (drV e0 (.slice va1 us.length vc1) (.slice va2 hs.length vc2) (.slice va3 ss.length vc3))), (b1, row 63 (drV e0 (.slice wa1 us2.length wc1) (.slice wa2 hs.length wc2) (.slice wa3 ss.length wc3)))]) _ (Pk.refl _) (fun f hf => hf) rfl rfl (by kernel_rfl) ?_
    refine LO_v rfl rfl rfl rfl (V_fieldAddr rfl rfl Tryz.underlying63 rfl sz59c rfl) ?_
    refine LO_v rfl rfl rfl rfl (V_load1 0 rfl rfl rfl Tryz.underlying59 rfl (by first | rfl | exact dg_get (by omega) (by omega))) ?_
    refine LO_v rfl rfl rfl rfl (V_move rfl rfl) ?_
    refine LO_v rfl rfl rfl rfl (V_indexC rfl rfl rfl Tryz.underlying59 sz103c (fun w hw => fC hw 0 rfl) (by omega) (by omega)) ?_
    refine LO_v rfl rfl rfl rfl (V_fieldC rfl rfl (fun w hw => (let ⟨b, o, e, _⟩ := SlC.cell (fC hw 0 rfl) (us_s (us := us) (i := i) (by omega)); ⟨b, o, e⟩)) Tryz.underlying103 rfl sz9c rfl) ?_
    refine LO_v rfl rfl rfl rfl (V_loadC rfl rfl Tryz.underlying9 rfl (fun w hw => fC hw 0 rfl) (us_s hi)) ?_
    refine LO_v rfl rfl rfl rfl (V_fieldAddr rfl rfl Tryz.underlying63 rfl sz59c rfl) ?_
    refine LO_v rfl rfl rfl rfl (V_load1 1 rfl rfl rfl Tryz.underlying59 rfl (by first | rfl | exact dg_get (by omega) (by omega))) ?_
    refine LO_v rfl rfl rfl rfl (V_move rfl rfl) ?_
    refine LO_v rfl rfl rfl rfl (V_indexC rfl rfl rfl Tryz.underlying59 sz103c (fun w hw => fC hw 3 rfl) (by omega) (by omega)) ?_
    refine LO_v rfl rfl rfl rfl (V_fieldC rfl rfl (fun w hw => (let ⟨b, o, e, _⟩ := SlC.cell (fC hw 3 rfl) (us_s (us := us2) (i := i) (by omega)); ⟨b, o, e⟩)) Tryz.underlying103 rfl sz9c rfl) ?_
    refine LO_v rfl rfl rfl rfl (V_loadC rfl rfl Tryz.underlying9 rfl (fun w hw => fC hw 3 rfl) (us_s2 h2 hi)) ?_
    refine LO_v rfl rfl rfl rfl (V_neS rfl rfl rfl (decide_eq_false (fun h => h rfl))) ?_
    refine LO_v rfl rfl rfl rfl (V_move rfl rfl) ?_
    refine LO_wv rfl rfl rfl rfl rfl rfl rfl (V_fieldAddr rfl rfl Tryz.underlying63 rfl sz59c rfl) ?_
    refine LO_wv rfl rfl rfl rfl rfl rfl rfl (V_load1 0 rfl rfl rfl Tryz.underlying59 rfl (by first | rfl | exact dg_get (by omega) (by omega))) ?_
    refine LO_wv rfl rfl rfl rfl rfl rfl rfl (V_move rfl rfl) ?_
    refine LO_wv rfl rfl rfl rfl rfl rfl rfl (V_indexC rfl rfl rfl Tryz.underlying59 sz103c (fun w hw => fC hw 0 rfl) (by omega) (by omega)) ?_
    refine LO_wv rfl rfl rfl rfl rfl rfl rfl (V_fieldC rfl rfl (fun w hw => (let ⟨b, o, e, _⟩ := SlC.cell (fC hw 0 rfl) (us_s (us := us) (i := i) (by omega)); ⟨b, o, e⟩)) Tryz.underlying103 rfl sz101c rfl) ?_
    refine LO_wv rfl rfl rfl rfl rfl rfl rfl (V_loadC rfl rfl Tryz.underlying101 rfl (fun w hw => fC hw 0 rfl) (us_v hi hy)) ?_
    refine LO_wv rfl rfl rfl rfl rfl rfl rfl (V_fieldAddr rfl rfl Tryz.underlying63 rfl sz59c rfl) ?_
    refine LO_wv rfl rfl rfl rfl rfl rfl rfl (V_load1 1 rfl rfl rfl Tryz.underlying59 rfl (by first | rfl | exact dg_get (by omega) (by omega))) ?_
    refine LO_wv rfl rfl rfl rfl rfl rfl rfl (V_move rfl rfl) ?_
    refine LO_wv rfl rfl rfl rfl rfl rfl rfl (V_indexC rfl rfl rfl Tryz.underlying59 sz103c (fun w hw => fC hw 3 rfl) (by omega) (by omega)) ?_
    refine LO_wv rfl rfl rfl rfl rfl rfl rfl (V_fieldC rfl rfl (fun w hw => (let ⟨b, o, e, _⟩ := SlC.cell (fC hw 3 rfl) (us_s (us := us2) (i := i) (by omega)); ⟨b, o, e⟩)) Tryz.underlying103 rfl sz101c rfl) ?_
    refine LO_wv rfl rfl rfl rfl rfl rfl rfl (V_loadC rfl rfl Tryz.underlying101 rfl (fun w hw => fC hw 3 rfl) (us_v (by omega) hz)) ?_
    refine LO_wcallV rfl rfl rfl rfl rfl rfl rfl rfl rfl rfl rfl tx57c (fun w1 hw => samev_t ya za yc zc (us.getD i UD).1.2 w1 (us_slG hw (fun f hf => List.mem_append_right _ (List.mem_append_left _ hf)) hi rfl hy) (us_slG hw (fun f hf => List.mem_append_right _ (List.mem_append_right _ hf)) (by omega) (us_eq h2 hi) hz) hm9) (Pk.refl _) (fun f hf => hf) ?_
    refine LO_wv rfl rfl rfl rfl rfl rfl rfl (V_not rfl rfl rfl) ?_
    first | refine LO_v rfl rfl rfl rfl (V_pickT rfl rfl rfl) ?_ | refine LO_v rfl rfl rfl rfl (V_pickF rfl rfl rfl) ?_
    refine LO_nil ?_
    change J _ _ _ _
    refine J_false rfl ?_
    refine J_skip ?_
    change J _ _ _ _
    refine J_region ?_
    refine L_v rfl rfl rfl (V_move rfl rfl) ?_
    refine L_v rfl rfl rfl (V_add rfl rfl rfl (by first | exact Go.IntWalk.i64_in _ (by omega) | rfl)) ?_
    refine L_v rfl rfl rfl (V_assign rfl rfl) ?_
    refine L_nil ?_
    exact ⟨i + 1, by show i + 1 ≤ us.length; omega, by show us.length - (i + 1) < us.length - i; omega, ⟨rfl, rfl, rfl, trivial⟩, List.Sublist.refl _, fun f hf => hf, rfl⟩
  ·
    first | (have h1 := of_decide_eq_true h1) | (have h1 := of_decide_eq_false h1) | skip
    refine J_exit ?_
    change J _ _ _ _
    refine J_seq ?_
    refine J_seq ?_
    refine J_region ?_
    refine L_v rfl rfl rfl (V_assign rfl rfl) ?_
    refine L_nil ?_
    change J _ _ _ _
    refine J_block ?_
    refine J_loop (X := Nat) (fun i => { env := [(2, .pointer (some ⟨b0, 0, none⟩)), (3, .pointer (some ⟨b1, 0, none⟩)), (6, .int .i64 (i : Int))], mem := [(b0, row 63 (drV e0 (.slice va1 us.length vc1) (.slice va2 hs.length vc2) (.slice va3 ss.length vc3))), (b1, row 63 (drV e0 (.slice wa1 us2.length wc1) (.slice wa2 hs.length wc2) (.slice wa3 ss.length wc3)))], facts := [factC 2 (.slice va1 us.length vc1) us.length (us.map usW).flatten, factC 65 (.slice va2 hs.length vc2) hs.length (hs.map hdV).flatten, factC 4 (.slice va3 ss.length vc3) ss.length (ss.map seV).flatten, factC 2 (.slice wa1 us2.length wc1) us2.length (us2.map usW).flatten, factC 65 (.slice wa2 hs.length wc2) hs.length (hs.map hdV).flatten, factC 4 (.slice wa3 ss.length wc3) ss.length (ss.map seV).flatten] ++ (us.map usF ++ us2.map usF) }) (fun i => i ≤ hs.length) (fun i => hs.length - i) 0 (Nat.zero_le _) ⟨⟨rfl, rfl, rfl, trivial⟩, List.Sublist.refl _, fun f hf => hf, rfl⟩ ?_
    rintro j hjn
    refine J_seq ?_
    refine J_seq ?_
    refine J_region ?_
    refine L_v rfl rfl rfl (V_move rfl rfl) ?_
    refine L_v rfl rfl rfl (V_fieldAddr rfl rfl Tryz.underlying63 rfl sz60c rfl) ?_
    refine L_v rfl rfl rfl (V_load1 0 rfl rfl rfl Tryz.underlying60 rfl (by first | rfl | exact dg_get (by omega) (by omega))) ?_
    refine L_v rfl rfl rfl (V_len rfl rfl Tryz.underlying60 rfl) ?_
    refine L_v rfl rfl rfl (V_lss rfl rfl rfl (by first | exact decide_eq_false (fun h => h rfl) | exact decide_eq_true (by omega) | exact decide_eq_false (by omega) | rfl)) ?_
    refine L_nil ?_
    change J _ _ _ _
    refine J_cond rfl (fun h2 => ?_) (fun h2 => ?_)
    ·
      first | (have h2 := of_decide_eq_true h2) | (have h2 := of_decide_eq_false h2) | skip
      have hj : j < hs.length := by omega
      refine J_skip ?_
      change J _ _ _ _
      refine J_seq ?_
      refine J_block ?_
      refine J_seq ?_
      refine J_regionQ rfl (by kernel_rfl) ?_
      refine LQ_v rfl rfl rfl (V_fieldAddr rfl rfl Tryz.underlying63 rfl sz60c rfl) ?_
      refine LQ_v rfl rfl rfl (V_load1 0 rfl rfl rfl Tryz.underlying60 rfl (by first | rfl | exact dg_get (by omega) (by omega))) ?_
      refine LQ_v rfl rfl rfl (V_move rfl rfl) ?_
      refine LQ_v rfl rfl rfl (V_indexC rfl rfl rfl Tryz.underlying60 sz47c (fun w hw => fC hw 1 rfl) (by omega) (by omega)) ?_
      refine LQ_v rfl rfl rfl (V_loadCN (vs := hdV (hs.getD j hD0)) rfl rfl Tryz.underlying47 rfl sz47c (fun w hw => fC hw 1 rfl) (by exact Nat.zero_lt_succ _) (rows_v hD0 (sz := 64) (fun _ => rfl) hj)) ?_
      refine LQ_v rfl rfl rfl (V_fieldAddr rfl rfl Tryz.underlying63 rfl sz60c rfl) ?_
      refine LQ_v rfl rfl rfl (V_load1 1 rfl rfl rfl Tryz.underlying60 rfl (by first | rfl | exact dg_get (by omega) (by omega))) ?_
      refine LQ_v rfl rfl rfl (V_move rfl rfl) ?_
      refine LQ_v rfl rfl rfl (V_indexC rfl rfl rfl Tryz.underlying60 sz47c (fun w hw => fC hw 4 rfl) (by omega) (by omega)) ?_
      refine LQ_v rfl rfl rfl (V_loadCN (vs := hdV (hs.getD j hD0)) rfl rfl Tryz.underlying47 rfl sz47c (fun w hw => fC hw 4 rfl) (by exact Nat.zero_lt_succ _) (rows_v hD0 (sz := 64) (fun _ => rfl) hj)) ?_
      refine LQ_v rfl rfl rfl (V_neAgg rfl rfl rfl egHd (fun w => eqHd _ w 9996) rfl) ?_
      refine LQ_nil ?_
      change J _ _ _ _
      refine J_false rfl ?_
      refine J_skip ?_
      change J _ _ _ _
      refine J_region ?_
      refine L_v rfl rfl rfl (V_move rfl rfl) ?_
      refine L_v rfl rfl rfl (V_add rfl rfl rfl (by first | exact Go.IntWalk.i64_in _ (by omega) | rfl)) ?_
      refine L_v rfl rfl rfl (V_assign rfl rfl) ?_
      refine L_nil ?_
      exact ⟨j + 1, by show j + 1 ≤ hs.length; omega, by show hs.length - (j + 1) < hs.length - j; omega, ⟨rfl, rfl, rfl, trivial⟩, List.Sublist.refl _, fun f hf => hf, rfl⟩
    ·
      first | (have h2 := of_decide_eq_true h2) | (have h2 := of_decide_eq_false h2) | skip
      refine J_exit ?_
      change J _ _ _ _
      refine J_seq ?_
      refine J_seq ?_
      refine J_region ?_
      refine L_v rfl rfl rfl (V_assign rfl rfl) ?_
      refine L_nil ?_
      change J _ _ _ _
      refine J_block ?_
      refine J_loop (X := Nat) (fun i => { env := [(2, .pointer (some ⟨b0, 0, none⟩)), (3, .pointer (some ⟨b1, 0, none⟩)), (7, .int .i64 (i : Int))], mem := [(b0, row 63 (drV e0 (.slice va1 us.length vc1) (.slice va2 hs.length vc2) (.slice va3 ss.length vc3))), (b1, row 63 (drV e0 (.slice wa1 us2.length wc1) (.slice wa2 hs.length wc2) (.slice wa3 ss.length wc3)))], facts := [factC 2 (.slice va1 us.length vc1) us.length (us.map usW).flatten, factC 65 (.slice va2 hs.length vc2) hs.length (hs.map hdV).flatten, factC 4 (.slice va3 ss.length vc3) ss.length (ss.map seV).flatten, factC 2 (.slice wa1 us2.length wc1) us2.length (us2.map usW).flatten, factC 65 (.slice wa2 hs.length wc2) hs.length (hs.map hdV).flatten, factC 4 (.slice wa3 ss.length wc3) ss.length (ss.map seV).flatten] ++ (us.map usF ++ us2.map usF) }) (fun i => i ≤ ss.length) (fun i => ss.length - i) 0 (Nat.zero_le _) ⟨⟨rfl, rfl, rfl, trivial⟩, List.Sublist.refl _, fun f hf => hf, rfl⟩ ?_
      rintro k hkn
      refine J_seq ?_
      refine J_seq ?_
      refine J_region ?_
      refine L_v rfl rfl rfl (V_move rfl rfl) ?_
      refine L_v rfl rfl rfl (V_fieldAddr rfl rfl Tryz.underlying63 rfl sz61c rfl) ?_
      refine L_v rfl rfl rfl (V_load1 0 rfl rfl rfl Tryz.underlying61 rfl (by first | rfl | exact dg_get (by omega) (by omega))) ?_
      refine L_v rfl rfl rfl (V_len rfl rfl Tryz.underlying61 rfl) ?_
      refine L_v rfl rfl rfl (V_lss rfl rfl rfl (by first | exact decide_eq_false (fun h => h rfl) | exact decide_eq_true (by omega) | exact decide_eq_false (by omega) | rfl)) ?_
      refine L_nil ?_
      change J _ _ _ _
      refine J_cond rfl (fun h3 => ?_) (fun h3 => ?_)
      ·
        first | (have h3 := of_decide_eq_true h3) | (have h3 := of_decide_eq_false h3) | skip
        have hk : k < ss.length := by omega
        refine J_skip ?_
        change J _ _ _ _
        refine J_seq ?_
        refine J_block ?_
        refine J_seq ?_
        refine J_regionQ rfl (by kernel_rfl) ?_
        refine LQ_v rfl rfl rfl (V_fieldAddr rfl rfl Tryz.underlying63 rfl sz61c rfl) ?_
        refine LQ_v rfl rfl rfl (V_load1 0 rfl rfl rfl Tryz.underlying61 rfl (by first | rfl | exact dg_get (by omega) (by omega))) ?_
        refine LQ_v rfl rfl rfl (V_move rfl rfl) ?_
        refine LQ_v rfl rfl rfl (V_indexC rfl rfl rfl Tryz.underlying61 sz106c (fun w hw => fC hw 2 rfl) (by omega) (by omega)) ?_
        refine LQ_v rfl rfl rfl (V_loadCN (vs := seV (ss.getD k sD0)) rfl rfl Tryz.underlying106 rfl sz106c (fun w hw => fC hw 2 rfl) (by exact Nat.zero_lt_succ _) (rows_v sD0 (sz := 3) (fun _ => rfl) hk)) ?_
        refine LQ_v rfl rfl rfl (V_fieldAddr rfl rfl Tryz.underlying63 rfl sz61c rfl) ?_
        refine LQ_v rfl rfl rfl (V_load1 1 rfl rfl rfl Tryz.underlying61 rfl (by first | rfl | exact dg_get (by omega) (by omega))) ?_
        refine LQ_v rfl rfl rfl (V_move rfl rfl) ?_
        refine LQ_v rfl rfl rfl (V_indexC rfl rfl rfl Tryz.underlying61 sz106c (fun w hw => fC hw 5 rfl) (by omega) (by omega)) ?_
        refine LQ_v rfl rfl rfl (V_loadCN (vs := seV (ss.getD k sD0)) rfl rfl Tryz.underlying106 rfl sz106c (fun w hw => fC hw 5 rfl) (by exact Nat.zero_lt_succ _) (rows_v sD0 (sz := 3) (fun _ => rfl) hk)) ?_
        refine LQ_v rfl rfl rfl (V_neAgg rfl rfl rfl egSe (fun w => eqSe _ w) rfl) ?_
        refine LQ_nil ?_
        change J _ _ _ _
        refine J_false rfl ?_
        refine J_skip ?_
        change J _ _ _ _
        refine J_region ?_
        refine L_v rfl rfl rfl (V_move rfl rfl) ?_
        refine L_v rfl rfl rfl (V_add rfl rfl rfl (by first | exact Go.IntWalk.i64_in _ (by omega) | rfl)) ?_
        refine L_v rfl rfl rfl (V_assign rfl rfl) ?_
        refine L_nil ?_
        exact ⟨k + 1, by show k + 1 ≤ ss.length; omega, by show ss.length - (k + 1) < ss.length - k; omega, ⟨rfl, rfl, rfl, trivial⟩, List.Sublist.refl _, fun f hf => hf, rfl⟩
      ·
        first | (have h3 := of_decide_eq_true h3) | (have h3 := of_decide_eq_false h3) | skip
        refine J_exit ?_
        change J _ _ _ _
        refine J_seq ?_
        refine J_region ?_
        refine L_v rfl rfl rfl (V_assign rfl rfl) ?_
        refine L_nil ?_
        change J _ _ _ _
        refine J_ret ?_
        change Kret _ _ _ Exit.ret _
        refine ret1 rfl rfl (RV_t rfl) ?_
        exact fun w' h => ⟨rfl, h.fr⟩

end Go.Proofs.YtfgcfjojpakpjaaGreat
