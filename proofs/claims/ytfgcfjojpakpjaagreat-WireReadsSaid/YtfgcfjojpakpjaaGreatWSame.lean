/- Is it the same? -/
import Derived.Test.YtfgcfjojpakpjaaGreatWLaw
import Derived.Test.YtfgcfjojpakpjaaGreatWRPuts
set_option linter.unusedVariables false
set_option linter.unusedSimpArgs false
set_option maxRecDepth 100000
namespace Go.Proofs.YtfgcfjojpakpjaaGreat
open Go.Sx
theorem OkW.fw {cx : Cx} {m : Mem} {fs gs : List Fact} {w : World} (h : OkW cx m fs w) (hs : ∀ f ∈ gs, f ∈ fs) : FW w gs := fun f hf => ⟨(h.facts f (hs f hf)).1, fun k hk => ((h.facts f (hs f hf)).2 k hk).1⟩
abbrev SzC (x : Cl) : Prop := x.1.length ≤ 1099511627776 ∧ x.2.length ≤ 1099511627776
theorem okFW {P : Program} {nt : Nat} {w : World} {fs : List Fact} (h : FW w fs) : OkW { P := P, w0 := w, nt := nt, mods := [] } [] fs w := okW_facts h
theorem FW.clE {w : World} {v1 v2 : Value} {x : Cl} (h : FW w (clF v1 v2 x)) : SlC 1 w v1 x.1.length (ints x.1) ∧ SlC 1 w v2 x.2.length (ints x.2) :=
  ⟨(h _ (List.mem_cons_self ..)).1, (h _ (List.mem_cons_of_mem _ (List.mem_cons_self ..))).1⟩
theorem ls_len (l : List Int) : ((ls cC).tk l).length = 1 + l.length := by
  show (Tok.ln l.length :: l.flatMap cC.tk).length = _
  rw [List.length_cons, List.length_flatMap]
  have : (l.map fun a => (cC.tk a).length) = l.map fun _ => 1 := rfl
  rw [this, List.map_const', List.sum_replicate_nat]
  omega
theorem en_len (x : En) : (enC.tk x).length = 12 + x.2.2.2.2.1.length + x.2.2.2.2.2.length := by
  show (cC.tk x.1 ++ (cC.tk x.2.1 ++ (cC.tk x.2.2.1 ++ (cmdC.tk x.2.2.2.1 ++ ((ls cC).tk x.2.2.2.2.1 ++ (ls cC).tk x.2.2.2.2.2))))).length = _
  simp only [List.length_append, ls_len]
  have : (cmdC.tk x.2.2.2.1).length = 7 := rfl
  have h1 : ∀ y, (cC.tk y).length = 1 := fun _ => rfl
  simp only [h1, this]
  omega
theorem rec_len (x : Rec) : (recC.tk x).length = 25 + x.2.2.2.1.2.2.2.2.1.length + x.2.2.2.1.2.2.2.2.2.length + x.2.2.2.2.2.1.2.2.1.1.length + x.2.2.2.2.2.1.2.2.1.2.length := by
  show (cC.tk x.1 ++ (cC.tk x.2.1 ++ (cC.tk x.2.2.1 ++ (enC.tk x.2.2.2.1 ++ (cC.tk x.2.2.2.2.1 ++ ((cC.tk x.2.2.2.2.2.1.1 ++ (cC.tk x.2.2.2.2.2.1.2.1 ++ (((ls cC).tk x.2.2.2.2.2.1.2.2.1.1 ++ (ls cC).tk x.2.2.2.2.2.1.2.2.1.2) ++ sC.tk x.2.2.2.2.2.1.2.2.2))) ++ sgC.tk x.2.2.2.2.2.2)))))).length = _
  simp only [List.length_append, ls_len, en_len]
  have : (sgC.tk x.2.2.2.2.2.2).length = 4 := rfl
  have h1 : ∀ y, (cC.tk y).length = 1 := fun _ => rfl
  have h2 : ∀ y, (sC.tk y).length = 1 := fun _ => rfl
  simp only [h1, h2, this]
  omega
def e0 : En := (0, 0, 0, c0, ([], []))
def z43 : List Int := List.replicate 43 0
theorem encE0 : encTs (enC.tk e0) = .ok z43 := by rfl
def r0 : Rec := (1, 3, 2, e0, 0, (0, 0, ([], []), ⟨#[]⟩), ((0, dz, dz), dz))
def MR : List Int := [1, 3, 2] ++ List.replicate 146 0
theorem encR0 : encTs (recC.tk r0) = .ok MR := by rfl
theorem bytR : Byt MR := by
  show ∀ x ∈ MR, 0 ≤ x ∧ x < 256
  decide
theorem getW_R1 : getW recC (MR.take 148) = none := getW_less recC bytR encR0 (by decide)
theorem bdE0 (w : World) : (Instr.build 38 ([] : List (Nat × Value)).toArray).run Tryz.prog w = .ok (.agg (enV e0 nilB nilB).toArray) w := by kernel_rfl
theorem bdRec0 (w : World) : (Instr.build 51 [(0, .int .i64 1), (1, .int .i64 3), (2, .int .i64 2)].toArray).run Tryz.prog w = .ok (.agg (recV r0 nilB nilB nilB nilB).toArray) w := by kernel_rfl
theorem fwNil {w : World} : FW w (clF nilB nilB ([], [])) := .cl (.inl ⟨rfl, rfl, none, 0, rfl⟩) (.inl ⟨rfl, rfl, none, 0, rfl⟩)
theorem sz3t : (Tryz.prog.info? 3).map (·.size) = some 1 := by kernel_rfl
theorem sz5t : (Tryz.prog.info? 5).map (·.size) = some 1 := by kernel_rfl
theorem sz9t : (Tryz.prog.info? 9).map (·.size) = some 1 := by kernel_rfl
theorem sz27t : (Tryz.prog.info? 27).map (·.size) = some 38 := by kernel_rfl
theorem sz33t : (Tryz.prog.info? 33).map (·.size) = some 1 := by kernel_rfl
theorem sz34t : (Tryz.prog.info? 34).map (·.size) = some 1 := by kernel_rfl
theorem sz36t : (Tryz.prog.info? 36).map (·.size) = some 2 := by kernel_rfl
theorem sz38t : (Tryz.prog.info? 38).map (·.size) = some 43 := by kernel_rfl
theorem sz43t : (Tryz.prog.info? 43).map (·.size) = some 1 := by kernel_rfl
theorem sz45t : (Tryz.prog.info? 45).map (·.size) = some 5 := by kernel_rfl
theorem sz49t : (Tryz.prog.info? 49).map (·.size) = some 97 := by kernel_rfl
theorem sz51t : (Tryz.prog.info? 51).map (·.size) = some 149 := by kernel_rfl
theorem tx7t : Txt Tryz.prog 7 := txt_of Tryz.func7 rfl (by kernel_rfl)
theorem tx9t : Txt Tryz.prog 9 := txt_of Tryz.func9 rfl (by kernel_rfl)
theorem tx10t : Txt Tryz.prog 10 := txt_of Tryz.func10 rfl (by kernel_rfl)
theorem tx11t : Txt Tryz.prog 11 := txt_of Tryz.func11 rfl (by kernel_rfl)
theorem tx13t : Txt Tryz.prog 13 := txt_of Tryz.func13 rfl (by kernel_rfl)
theorem tx40t : Txt Tryz.prog 40 := txt_of Tryz.func40 rfl (by kernel_rfl)
theorem tx46t : Txt Tryz.prog 46 := txt_of Tryz.func46 rfl (by kernel_rfl)
theorem tx75t : Txt Tryz.prog 75 := txt_of Tryz.func75 rfl (by kernel_rfl)
theorem z38t : (Tryz.prog.info? 38).bind (·.zero) = some (.agg [.int .i64 0, .int .i64 0, .int .i64 0, .int .i64 0, .int .i64 0, .int .i64 0, .string ByteArray.empty, .string ByteArray.empty, .int .i64 0, .int .u8 0, .int .u8 0, .int .u8 0, .int .u8 0, .int .u8 0, .int .u8 0, .int .u8 0, .int .u8 0, .int .u8 0, .int .u8 0, .int .u8 0, .int .u8 0, .int .u8 0, .int .u8 0, .int .u8 0, .int .u8 0, .int .u8 0, .int .u8 0, .int .u8 0, .int .u8 0, .int .u8 0, .int .u8 0, .int .u8 0, .int .u8 0, .int .u8 0, .int .u8 0, .int .u8 0, .int .u8 0, .int .u8 0, .int .u8 0, .int .u8 0, .int .u8 0, .slice none 0 0, .slice none 0 0].toArray) := by kernel_rfl
theorem z51t : (Tryz.prog.info? 51).bind (·.zero) = some (.agg [.int .i64 0, .int .i64 0, .int .i64 0, .int .i64 0, .int .i64 0, .int .i64 0, .int .i64 0, .int .i64 0, .int .i64 0, .string ByteArray.empty, .string ByteArray.empty, .int .i64 0, .int .u8 0, .int .u8 0, .int .u8 0, .int .u8 0, .int .u8 0, .int .u8 0, .int .u8 0, .int .u8 0, .int .u8 0, .int .u8 0, .int .u8 0, .int .u8 0, .int .u8 0, .int .u8 0, .int .u8 0, .int .u8 0, .int .u8 0, .int .u8 0, .int .u8 0, .int .u8 0, .int .u8 0, .int .u8 0, .int .u8 0, .int .u8 0, .int .u8 0, .int .u8 0, .int .u8 0, .int .u8 0, .int .u8 0, .int .u8 0, .int .u8 0, .int .u8 0, .slice none 0 0, .slice none 0 0, .int .i64 0, .int .i64 0, .int .i64 0, .slice none 0 0, .slice none 0 0, .string ByteArray.empty, .int .i64 0, .int .u8 0, .int .u8 0, .int .u8 0, .int .u8 0, .int .u8 0, .int .u8 0, .int .u8 0, .int .u8 0, .int .u8 0, .int .u8 0, .int .u8 0, .int .u8 0, .int .u8 0, .int .u8 0, .int .u8 0, .int .u8 0, .int .u8 0, .int .u8 0, .int .u8 0, .int .u8 0, .int .u8 0, .int .u8 0, .int .u8 0, .int .u8 0, .int .u8 0, .int .u8 0, .int .u8 0, .int .u8 0, .int .u8 0, .int .u8 0, .int .u8 0, .int .u8 0, .int .u8 0, .int .u8 0, .int .u8 0, .int .u8 0, .int .u8 0, .int .u8 0, .int .u8 0, .int .u8 0, .int .u8 0, .int .u8 0, .int .u8 0, .int .u8 0, .int .u8 0, .int .u8 0, .int .u8 0, .int .u8 0, .int .u8 0, .int .u8 0, .int .u8 0, .int .u8 0, .int .u8 0, .int .u8 0, .int .u8 0, .int .u8 0, .int .u8 0, .int .u8 0, .int .u8 0, .int .u8 0, .int .u8 0, .int .u8 0, .int .u8 0, .int .u8 0, .int .u8 0, .int .u8 0, .int .u8 0, .int .u8 0, .int .u8 0, .int .u8 0, .int .u8 0, .int .u8 0, .int .u8 0, .int .u8 0, .int .u8 0, .int .u8 0, .int .u8 0, .int .u8 0, .int .u8 0, .int .u8 0, .int .u8 0, .int .u8 0, .int .u8 0, .int .u8 0, .int .u8 0, .int .u8 0, .int .u8 0, .int .u8 0, .int .u8 0, .int .u8 0, .int .u8 0, .int .u8 0, .int .u8 0, .int .u8 0, .int .u8 0, .int .u8 0].toArray) := by kernel_rfl

theorem ints_0 (a b : Option Addr) (n c d : Nat) (l : List Int) (w : World) (hu : SlC 1 w (.slice a n c) n (ints l)) (hv : SlC 1 w (.slice b n d) n (ints l)) (hB : n ≤ 1099511627776) :
    Calls Tryz.prog 75 #[.slice a n c, .slice b n d] w fun e w' => e = .returned (.bool true) ∧ Fr [] w w' := by
  have hl := hu.len
  rw [ints_len, Nat.mul_one] at hl
  refine calls_of (args := [.slice a n c, .slice b n d]) ([]) ([]) ([factC 1 (.slice a n c) n (ints l), factC 1 (.slice b n d) n (ints l)]) Tryz.func75 rfl rfl (okFW (.cons ⟨hu, factC_lt hu⟩ (.cons ⟨hv, factC_lt hv⟩ .nil))) ?_
  refine J_seq ?_
  refine J_region ?_
  refine L_v rfl rfl rfl (V_assign rfl rfl) ?_
  refine L_nil ?_
  change J _ _ _ _
  refine J_seq ?_
  refine J_seq ?_
  refine J_region ?_
  refine L_v rfl rfl rfl (V_move rfl rfl) ?_
  refine L_v rfl rfl rfl (V_len rfl rfl Tryz.underlying34 rfl) ?_
  refine L_v rfl rfl rfl (V_move rfl rfl) ?_
  refine L_v rfl rfl rfl (V_len rfl rfl Tryz.underlying34 rfl) ?_
  refine L_v rfl rfl rfl (V_neq rfl rfl rfl (by first | exact decide_eq_false (fun h => h rfl) | exact decide_eq_true (by omega) | exact decide_eq_false (by omega) | rfl)) ?_
  refine L_nil ?_
  change J _ _ _ _
  refine J_false rfl ?_
  refine J_skip ?_
  change J _ _ _ _
  refine J_seq ?_
  refine J_seq ?_
  refine J_region ?_
  refine L_v rfl rfl rfl (V_assign rfl rfl) ?_
  refine L_nil ?_
  change J _ _ _ _
  refine J_block ?_
  refine J_loop (X := Nat) (fun i => { env := [(0, .slice a n c), (1, .slice b n d), (5, .int .i64 (i : Int))], mem := [], facts := [factC 1 (.slice a n c) n (ints l), factC 1 (.slice b n d) n (ints l)] }) (fun i => i ≤ n) (fun i => n - i) 0 (Nat.zero_le _) ⟨⟨rfl, rfl, rfl, trivial⟩, List.Sublist.refl _, fun f hf => hf, rfl⟩ ?_
  rintro i hi
  refine J_seq ?_
  refine J_seq ?_
  refine J_region ?_
  refine L_v rfl rfl rfl (V_move rfl rfl) ?_
  refine L_v rfl rfl rfl (V_move rfl rfl) ?_
  refine L_v rfl rfl rfl (V_len rfl rfl Tryz.underlying34 rfl) ?_
  refine L_v rfl rfl rfl (V_lss rfl rfl rfl (by first | exact decide_eq_false (fun h => h rfl) | exact decide_eq_true (by omega) | exact decide_eq_false (by omega) | rfl)) ?_
  refine L_nil ?_
  change J _ _ _ _
  refine J_cond rfl (fun h1 => ?_) (fun h1 => ?_)
  ·
    first | (have h1 := of_decide_eq_true h1) | (have h1 := of_decide_eq_false h1) | skip
    refine J_skip ?_
    change J _ _ _ _
    refine J_seq ?_
    refine J_block ?_
    refine J_seq ?_
    refine J_regionQ rfl (by kernel_rfl) ?_
    refine LQ_v rfl rfl rfl (V_move rfl rfl) ?_
    refine LQ_v rfl rfl rfl (V_move rfl rfl) ?_
    refine LQ_v rfl rfl rfl (V_indexC rfl rfl rfl Tryz.underlying34 sz3t (fun w hw => fC hw 0 rfl) (by omega) (by omega)) ?_
    refine LQ_v rfl rfl rfl (V_loadC rfl rfl Tryz.underlying3 rfl (fun w hw => fC hw 0 rfl) (ints_get (by omega))) ?_
    refine LQ_v rfl rfl rfl (V_move rfl rfl) ?_
    refine LQ_v rfl rfl rfl (V_move rfl rfl) ?_
    refine LQ_v rfl rfl rfl (V_indexC rfl rfl rfl Tryz.underlying34 sz3t (fun w hw => fC hw 1 rfl) (by omega) (by omega)) ?_
    refine LQ_v rfl rfl rfl (V_loadC rfl rfl Tryz.underlying3 rfl (fun w hw => fC hw 1 rfl) (ints_get (by omega))) ?_
    refine LQ_v rfl rfl rfl (V_neq rfl rfl rfl (by first | exact decide_eq_false (fun h => h rfl) | exact decide_eq_true (by omega) | exact decide_eq_false (by omega) | rfl)) ?_
    refine LQ_nil ?_
    change J _ _ _ _
    refine J_false rfl ?_
    refine J_skip ?_
    change J _ _ _ _
    refine J_region ?_
    refine L_v rfl rfl rfl (V_move rfl rfl) ?_
    refine L_v rfl rfl rfl (V_add rfl rfl rfl (by first | exact Go.IntWalk.i64_in _ (by omega) | rfl)) ?_
    refine L_v rfl rfl rfl (V_assign rfl rfl) ?_
    refine L_nil ?_
    exact ⟨i + 1, by show i + 1 ≤ n; omega, by show n - (i + 1) < n - i; omega, ⟨rfl, rfl, rfl, trivial⟩, List.Sublist.refl _, fun f hf => hf, rfl⟩
  ·
    first | (have h1 := of_decide_eq_true h1) | (have h1 := of_decide_eq_false h1) | skip
    refine J_exit ?_
    change J _ _ _ _
    refine J_seq ?_
    refine J_region ?_
    refine L_v rfl rfl rfl (V_assign rfl rfl) ?_
    refine L_nil ?_
    change J _ _ _ _
    refine J_ret ?_
    change Kret _ _ _ Exit.ret _
    refine ret1 rfl rfl (RV_t rfl) ?_
    exact fun w' h => ⟨rfl, h.fr⟩

theorem ints_t (u v : Value) (l : List Int) (w : World) (hu : SlC 1 w u l.length (ints l)) (hv : SlC 1 w v l.length (ints l)) (hB : l.length ≤ 1099511627776) :
    Calls Tryz.prog 75 #[u, v] w fun e w' => e = .returned (.bool true) ∧ Fr [] w w' := by
  obtain ⟨a, c, rfl⟩ := hu.form
  obtain ⟨b, d, rfl⟩ := hv.form
  exact ints_0 a b _ c d l w hu hv hB

theorem samecl_t (x : Cl) (v1 v2 u1 u2 : Value) (w : World) (h1 : FW w (clF v1 v2 x)) (h2 : FW w (clF u1 u2 x)) (hB : SzC x) :
    Calls Tryz.prog 40 #[.agg (clV v1 v2).toArray, .agg (clV u1 u2).toArray] w fun e w' => e = .returned (.bool true) ∧ Fr [] w w' := by
  refine calls_of (args := [.agg (clV v1 v2).toArray, .agg (clV u1 u2).toArray]) ([]) ([]) ((clF v1 v2 x) ++ (clF u1 u2 x)) Tryz.func40 rfl rfl (okFW (FW.app h1 h2)) ?_
  refine J_seq ?_
  refine J_region ?_
  refine L_box rfl rfl rfl rfl rfl (fun b0 => ?_)
  refine L_box rfl rfl rfl rfl rfl (fun b1 => ?_)
  refine L_v rfl rfl rfl (V_assign rfl rfl) ?_
  refine L_nil ?_
  change J _ _ _ _
  refine J_seq ?_
  refine J_region ?_
  refine L_v rfl rfl rfl (V_fieldAddr rfl rfl Tryz.underlying36 rfl sz34t rfl) ?_
  refine L_v rfl rfl rfl (V_load1 0 rfl rfl rfl Tryz.underlying34 rfl (by first | rfl | exact dg_get (by omega) (by omega))) ?_
  refine L_v rfl rfl rfl (V_fieldAddr rfl rfl Tryz.underlying36 rfl sz34t rfl) ?_
  refine L_v rfl rfl rfl (V_load1 1 rfl rfl rfl Tryz.underlying34 rfl (by first | rfl | exact dg_get (by omega) (by omega))) ?_
  refine L_callV rfl rfl rfl rfl rfl rfl tx75t (fun w1 hw => ints_t v1 u1 x.1 w1 (fC hw 0 rfl) (fC hw 2 rfl) hB.1) ?_
  refine L_v rfl rfl rfl (V_move rfl rfl) ?_
  refine L_wv rfl rfl rfl rfl rfl rfl (V_fieldAddr rfl rfl Tryz.underlying36 rfl sz34t rfl) ?_
  refine L_wv rfl rfl rfl rfl rfl rfl (V_load1 0 rfl rfl rfl Tryz.underlying34 rfl (by first | rfl | exact dg_get (by omega) (by omega))) ?_
  refine L_wv rfl rfl rfl rfl rfl rfl (V_fieldAddr rfl rfl Tryz.underlying36 rfl sz34t rfl) ?_
  refine L_wv rfl rfl rfl rfl rfl rfl (V_load1 1 rfl rfl rfl Tryz.underlying34 rfl (by first | rfl | exact dg_get (by omega) (by omega))) ?_
  refine L_wcallV rfl rfl rfl rfl rfl rfl rfl rfl rfl tx75t (fun w1 hw => ints_t v2 u2 x.2 w1 (fC hw 1 rfl) (fC hw 3 rfl) hB.2) ?_
  first | refine L_v rfl rfl rfl (V_pickT rfl rfl rfl) ?_ | refine L_v rfl rfl rfl (V_pickF rfl rfl rfl) ?_
  refine L_v rfl rfl rfl (V_assign rfl rfl) ?_
  refine L_nil ?_
  change J _ _ _ _
  refine J_ret ?_
  change Kret _ _ _ Exit.ret _
  refine ret1 rfl rfl (RV_t rfl) ?_
  exact fun w' h => ⟨rfl, h.fr⟩

theorem sameen_t (x : En) (v1 v2 u1 u2 : Value) (w : World) (h1 : FW w (clF v1 v2 x.2.2.2.2)) (h2 : FW w (clF u1 u2 x.2.2.2.2)) (hB : SzC x.2.2.2.2) :
    Calls Tryz.prog 10 #[.agg (enV x v1 v2).toArray, .agg (enV x u1 u2).toArray] w fun e w' => e = .returned (.bool true) ∧ Fr [] w w' := by
  refine calls_of (args := [.agg (enV x v1 v2).toArray, .agg (enV x u1 u2).toArray]) ([]) ([]) ((clF v1 v2 x.2.2.2.2) ++ (clF u1 u2 x.2.2.2.2)) Tryz.func10 rfl rfl (okFW (FW.app h1 h2)) ?_
  refine J_seq ?_
  refine J_region ?_
  refine L_box rfl rfl rfl rfl rfl (fun b0 => ?_)
  refine L_box rfl rfl rfl rfl rfl (fun b1 => ?_)
  refine L_v rfl rfl rfl (V_assign rfl rfl) ?_
  refine L_nil ?_
  change J _ _ _ _
  refine J_seq ?_
  refine J_region ?_
  refine L_v rfl rfl rfl (V_fieldAddr rfl rfl Tryz.underlying38 rfl sz3t rfl) ?_
  refine L_v rfl rfl rfl (V_load1 0 rfl rfl rfl Tryz.underlying3 rfl (by first | rfl | exact dg_get (by omega) (by omega))) ?_
  refine L_v rfl rfl rfl (V_fieldAddr rfl rfl Tryz.underlying38 rfl sz3t rfl) ?_
  refine L_v rfl rfl rfl (V_load1 1 rfl rfl rfl Tryz.underlying3 rfl (by first | rfl | exact dg_get (by omega) (by omega))) ?_
  refine L_v rfl rfl rfl (V_eql rfl rfl rfl (decide_eq_true rfl)) ?_
  refine L_v rfl rfl rfl (V_move rfl rfl) ?_
  refine L_wv rfl rfl rfl rfl rfl rfl (V_fieldAddr rfl rfl Tryz.underlying38 rfl sz3t rfl) ?_
  refine L_wv rfl rfl rfl rfl rfl rfl (V_load1 0 rfl rfl rfl Tryz.underlying3 rfl (by first | rfl | exact dg_get (by omega) (by omega))) ?_
  refine L_wv rfl rfl rfl rfl rfl rfl (V_fieldAddr rfl rfl Tryz.underlying38 rfl sz3t rfl) ?_
  refine L_wv rfl rfl rfl rfl rfl rfl (V_load1 1 rfl rfl rfl Tryz.underlying3 rfl (by first | rfl | exact dg_get (by omega) (by omega))) ?_
  refine L_wv rfl rfl rfl rfl rfl rfl (V_eql rfl rfl rfl (decide_eq_true rfl)) ?_
  first | refine L_v rfl rfl rfl (V_pickT rfl rfl rfl) ?_ | refine L_v rfl rfl rfl (V_pickF rfl rfl rfl) ?_
  refine L_v rfl rfl rfl (V_move rfl rfl) ?_
  refine L_wv rfl rfl rfl rfl rfl rfl (V_fieldAddr rfl rfl Tryz.underlying38 rfl sz33t rfl) ?_
  refine L_wv rfl rfl rfl rfl rfl rfl (V_load1 0 rfl rfl rfl Tryz.underlying33 rfl (by first | rfl | exact dg_get (by omega) (by omega))) ?_
  refine L_wv rfl rfl rfl rfl rfl rfl (V_fieldAddr rfl rfl Tryz.underlying38 rfl sz33t rfl) ?_
  refine L_wv rfl rfl rfl rfl rfl rfl (V_load1 1 rfl rfl rfl Tryz.underlying33 rfl (by first | rfl | exact dg_get (by omega) (by omega))) ?_
  refine L_wv rfl rfl rfl rfl rfl rfl (V_eql rfl rfl rfl (decide_eq_true rfl)) ?_
  first | refine L_v rfl rfl rfl (V_pickT rfl rfl rfl) ?_ | refine L_v rfl rfl rfl (V_pickF rfl rfl rfl) ?_
  refine L_v rfl rfl rfl (V_move rfl rfl) ?_
  refine L_wv rfl rfl rfl rfl rfl rfl (V_fieldAddr rfl rfl Tryz.underlying38 rfl sz27t rfl) ?_
  refine L_wv rfl rfl rfl rfl rfl rfl (V_loadT 0 (vs := cmdV x.2.2.2.1) rfl rfl rfl Tryz.underlying27 rfl sz27t rfl rfl) ?_
  refine L_wv rfl rfl rfl rfl rfl rfl (V_fieldAddr rfl rfl Tryz.underlying38 rfl sz27t rfl) ?_
  refine L_wv rfl rfl rfl rfl rfl rfl (V_loadT 1 (vs := cmdV x.2.2.2.1) rfl rfl rfl Tryz.underlying27 rfl sz27t rfl rfl) ?_
  refine L_wv rfl rfl rfl rfl rfl rfl (V_eqAgg rfl rfl rfl egC (fun w => eqCmd _ w) rfl) ?_
  first | refine L_v rfl rfl rfl (V_pickT rfl rfl rfl) ?_ | refine L_v rfl rfl rfl (V_pickF rfl rfl rfl) ?_
  refine L_v rfl rfl rfl (V_move rfl rfl) ?_
  refine L_wv rfl rfl rfl rfl rfl rfl (V_fieldAddr rfl rfl Tryz.underlying38 rfl sz36t rfl) ?_
  refine L_wv rfl rfl rfl rfl rfl rfl (V_loadT 0 (vs := clV v1 v2) rfl rfl rfl Tryz.underlying36 rfl sz36t rfl rfl) ?_
  refine L_wv rfl rfl rfl rfl rfl rfl (V_fieldAddr rfl rfl Tryz.underlying38 rfl sz36t rfl) ?_
  refine L_wv rfl rfl rfl rfl rfl rfl (V_loadT 1 (vs := clV u1 u2) rfl rfl rfl Tryz.underlying36 rfl sz36t rfl rfl) ?_
  refine L_wcallV rfl rfl rfl rfl rfl rfl rfl rfl rfl tx40t (fun w1 hw => samecl_t x.2.2.2.2 v1 v2 u1 u2 w1 (OkW.fw hw (fun f hf => List.mem_append_left _ hf)) (OkW.fw hw (fun f hf => List.mem_append_right _ hf)) hB) ?_
  first | refine L_v rfl rfl rfl (V_pickT rfl rfl rfl) ?_ | refine L_v rfl rfl rfl (V_pickF rfl rfl rfl) ?_
  refine L_v rfl rfl rfl (V_assign rfl rfl) ?_
  refine L_nil ?_
  change J _ _ _ _
  refine J_ret ?_
  change Kret _ _ _ Exit.ret _
  refine ret1 rfl rfl (RV_t rfl) ?_
  exact fun w' h => ⟨rfl, h.fr⟩

theorem samesn_t (x : Sn) (v1 v2 u1 u2 : Value) (w : World) (h1 : FW w (clF v1 v2 x.2.2.1)) (h2 : FW w (clF u1 u2 x.2.2.1)) (hB : SzC x.2.2.1) :
    Calls Tryz.prog 46 #[.agg (snV x v1 v2).toArray, .agg (snV x u1 u2).toArray] w fun e w' => e = .returned (.bool true) ∧ Fr [] w w' := by
  refine calls_of (args := [.agg (snV x v1 v2).toArray, .agg (snV x u1 u2).toArray]) ([]) ([]) ((clF v1 v2 x.2.2.1) ++ (clF u1 u2 x.2.2.1)) Tryz.func46 rfl rfl (okFW (FW.app h1 h2)) ?_
  refine J_seq ?_
  refine J_region ?_
  refine L_box rfl rfl rfl rfl rfl (fun b0 => ?_)
  refine L_box rfl rfl rfl rfl rfl (fun b1 => ?_)
  refine L_v rfl rfl rfl (V_assign rfl rfl) ?_
  refine L_nil ?_
  change J _ _ _ _
  refine J_seq ?_
  refine J_region ?_
  refine L_v rfl rfl rfl (V_fieldAddr rfl rfl Tryz.underlying45 rfl sz3t rfl) ?_
  refine L_v rfl rfl rfl (V_load1 0 rfl rfl rfl Tryz.underlying3 rfl (by first | rfl | exact dg_get (by omega) (by omega))) ?_
  refine L_v rfl rfl rfl (V_fieldAddr rfl rfl Tryz.underlying45 rfl sz3t rfl) ?_
  refine L_v rfl rfl rfl (V_load1 1 rfl rfl rfl Tryz.underlying3 rfl (by first | rfl | exact dg_get (by omega) (by omega))) ?_
  refine L_v rfl rfl rfl (V_eql rfl rfl rfl (decide_eq_true rfl)) ?_
  refine L_v rfl rfl rfl (V_move rfl rfl) ?_
  refine L_wv rfl rfl rfl rfl rfl rfl (V_fieldAddr rfl rfl Tryz.underlying45 rfl sz3t rfl) ?_
  refine L_wv rfl rfl rfl rfl rfl rfl (V_load1 0 rfl rfl rfl Tryz.underlying3 rfl (by first | rfl | exact dg_get (by omega) (by omega))) ?_
  refine L_wv rfl rfl rfl rfl rfl rfl (V_fieldAddr rfl rfl Tryz.underlying45 rfl sz3t rfl) ?_
  refine L_wv rfl rfl rfl rfl rfl rfl (V_load1 1 rfl rfl rfl Tryz.underlying3 rfl (by first | rfl | exact dg_get (by omega) (by omega))) ?_
  refine L_wv rfl rfl rfl rfl rfl rfl (V_eql rfl rfl rfl (decide_eq_true rfl)) ?_
  first | refine L_v rfl rfl rfl (V_pickT rfl rfl rfl) ?_ | refine L_v rfl rfl rfl (V_pickF rfl rfl rfl) ?_
  refine L_v rfl rfl rfl (V_move rfl rfl) ?_
  refine L_wv rfl rfl rfl rfl rfl rfl (V_fieldAddr rfl rfl Tryz.underlying45 rfl sz9t rfl) ?_
  refine L_wv rfl rfl rfl rfl rfl rfl (V_load1 0 rfl rfl rfl Tryz.underlying9 rfl (by first | rfl | exact dg_get (by omega) (by omega))) ?_
  refine L_wv rfl rfl rfl rfl rfl rfl (V_fieldAddr rfl rfl Tryz.underlying45 rfl sz9t rfl) ?_
  refine L_wv rfl rfl rfl rfl rfl rfl (V_load1 1 rfl rfl rfl Tryz.underlying9 rfl (by first | rfl | exact dg_get (by omega) (by omega))) ?_
  refine L_wv rfl rfl rfl rfl rfl rfl (V_eqS rfl rfl rfl (decide_eq_true rfl)) ?_
  first | refine L_v rfl rfl rfl (V_pickT rfl rfl rfl) ?_ | refine L_v rfl rfl rfl (V_pickF rfl rfl rfl) ?_
  refine L_v rfl rfl rfl (V_move rfl rfl) ?_
  refine L_wv rfl rfl rfl rfl rfl rfl (V_fieldAddr rfl rfl Tryz.underlying45 rfl sz36t rfl) ?_
  refine L_wv rfl rfl rfl rfl rfl rfl (V_loadT 0 (vs := clV v1 v2) rfl rfl rfl Tryz.underlying36 rfl sz36t rfl rfl) ?_
  refine L_wv rfl rfl rfl rfl rfl rfl (V_fieldAddr rfl rfl Tryz.underlying45 rfl sz36t rfl) ?_
  refine L_wv rfl rfl rfl rfl rfl rfl (V_loadT 1 (vs := clV u1 u2) rfl rfl rfl Tryz.underlying36 rfl sz36t rfl rfl) ?_
  refine L_wcallV rfl rfl rfl rfl rfl rfl rfl rfl rfl tx40t (fun w1 hw => samecl_t x.2.2.1 v1 v2 u1 u2 w1 (OkW.fw hw (fun f hf => List.mem_append_left _ hf)) (OkW.fw hw (fun f hf => List.mem_append_right _ hf)) hB) ?_
  first | refine L_v rfl rfl rfl (V_pickT rfl rfl rfl) ?_ | refine L_v rfl rfl rfl (V_pickF rfl rfl rfl) ?_
  refine L_v rfl rfl rfl (V_assign rfl rfl) ?_
  refine L_nil ?_
  change J _ _ _ _
  refine J_ret ?_
  change Kret _ _ _ Exit.ret _
  refine ret1 rfl rfl (RV_t rfl) ?_
  exact fun w' h => ⟨rfl, h.fr⟩

set_option maxHeartbeats 4000000 in
theorem samerec_t (x : Rec) (v1 v2 v3 v4 u1 u2 u3 u4 : Value) (w : World) (h1 : FW w (clF v1 v2 x.2.2.2.1.2.2.2.2 ++ clF v3 v4 x.2.2.2.2.2.1.2.2.1)) (h2 : FW w (clF u1 u2 x.2.2.2.1.2.2.2.2 ++ clF u3 u4 x.2.2.2.2.2.1.2.2.1)) (hB : SzC x.2.2.2.1.2.2.2.2) (hB2 : SzC x.2.2.2.2.2.1.2.2.1) :
    Calls Tryz.prog 14 #[.agg (recV x v1 v2 v3 v4).toArray, .agg (recV x u1 u2 u3 u4).toArray] w fun e w' => e = .returned (.bool true) ∧ Fr [] w w' := by
  refine calls_of (args := [.agg (recV x v1 v2 v3 v4).toArray, .agg (recV x u1 u2 u3 u4).toArray]) ([]) ([]) ((clF v1 v2 x.2.2.2.1.2.2.2.2 ++ clF v3 v4 x.2.2.2.2.2.1.2.2.1) ++ (clF u1 u2 x.2.2.2.1.2.2.2.2 ++ clF u3 u4 x.2.2.2.2.2.1.2.2.1)) Tryz.func14 rfl rfl (okFW (FW.app h1 h2)) ?_
  refine J_seq ?_
  refine J_region ?_
  refine L_box rfl rfl rfl rfl rfl (fun b0 => ?_)
  refine L_box rfl rfl rfl rfl rfl (fun b1 => ?_)
  refine L_v rfl rfl rfl (V_assign rfl rfl) ?_
  refine L_nil ?_
  change J _ _ _ _
  refine J_seq ?_
  refine J_region ?_
  refine L_v rfl rfl rfl (V_fieldAddr rfl rfl Tryz.underlying51 rfl sz43t rfl) ?_
  refine L_v rfl rfl rfl (V_load1 0 rfl rfl rfl Tryz.underlying43 rfl (by first | rfl | exact dg_get (by omega) (by omega))) ?_
  refine L_v rfl rfl rfl (V_fieldAddr rfl rfl Tryz.underlying51 rfl sz43t rfl) ?_
  refine L_v rfl rfl rfl (V_load1 1 rfl rfl rfl Tryz.underlying43 rfl (by first | rfl | exact dg_get (by omega) (by omega))) ?_
  refine L_v rfl rfl rfl (V_eql rfl rfl rfl (decide_eq_true rfl)) ?_
  refine L_v rfl rfl rfl (V_move rfl rfl) ?_
  refine L_wv rfl rfl rfl rfl rfl rfl (V_fieldAddr rfl rfl Tryz.underlying51 rfl sz3t rfl) ?_
  refine L_wv rfl rfl rfl rfl rfl rfl (V_load1 0 rfl rfl rfl Tryz.underlying3 rfl (by first | rfl | exact dg_get (by omega) (by omega))) ?_
  refine L_wv rfl rfl rfl rfl rfl rfl (V_fieldAddr rfl rfl Tryz.underlying51 rfl sz3t rfl) ?_
  refine L_wv rfl rfl rfl rfl rfl rfl (V_load1 1 rfl rfl rfl Tryz.underlying3 rfl (by first | rfl | exact dg_get (by omega) (by omega))) ?_
  refine L_wv rfl rfl rfl rfl rfl rfl (V_eql rfl rfl rfl (decide_eq_true rfl)) ?_
  first | refine L_v rfl rfl rfl (V_pickT rfl rfl rfl) ?_ | refine L_v rfl rfl rfl (V_pickF rfl rfl rfl) ?_
  refine L_v rfl rfl rfl (V_move rfl rfl) ?_
  refine L_wv rfl rfl rfl rfl rfl rfl (V_fieldAddr rfl rfl Tryz.underlying51 rfl sz3t rfl) ?_
  refine L_wv rfl rfl rfl rfl rfl rfl (V_load1 0 rfl rfl rfl Tryz.underlying3 rfl (by first | rfl | exact dg_get (by omega) (by omega))) ?_
  refine L_wv rfl rfl rfl rfl rfl rfl (V_fieldAddr rfl rfl Tryz.underlying51 rfl sz3t rfl) ?_
  refine L_wv rfl rfl rfl rfl rfl rfl (V_load1 1 rfl rfl rfl Tryz.underlying3 rfl (by first | rfl | exact dg_get (by omega) (by omega))) ?_
  refine L_wv rfl rfl rfl rfl rfl rfl (V_eql rfl rfl rfl (decide_eq_true rfl)) ?_
  first | refine L_v rfl rfl rfl (V_pickT rfl rfl rfl) ?_ | refine L_v rfl rfl rfl (V_pickF rfl rfl rfl) ?_
  refine L_v rfl rfl rfl (V_move rfl rfl) ?_
  refine L_wv rfl rfl rfl rfl rfl rfl (V_fieldAddr rfl rfl Tryz.underlying51 rfl sz3t rfl) ?_
  refine L_wv rfl rfl rfl rfl rfl rfl (V_load1 0 rfl rfl rfl Tryz.underlying3 rfl (by first | rfl | exact dg_get (by omega) (by omega))) ?_
  refine L_wv rfl rfl rfl rfl rfl rfl (V_fieldAddr rfl rfl Tryz.underlying51 rfl sz3t rfl) ?_
  refine L_wv rfl rfl rfl rfl rfl rfl (V_load1 1 rfl rfl rfl Tryz.underlying3 rfl (by first | rfl | exact dg_get (by omega) (by omega))) ?_
  refine L_wv rfl rfl rfl rfl rfl rfl (V_eql rfl rfl rfl (decide_eq_true rfl)) ?_
  first | refine L_v rfl rfl rfl (V_pickT rfl rfl rfl) ?_ | refine L_v rfl rfl rfl (V_pickF rfl rfl rfl) ?_
  refine L_v rfl rfl rfl (V_move rfl rfl) ?_
  refine L_wv rfl rfl rfl rfl rfl rfl (V_fieldAddr rfl rfl Tryz.underlying51 rfl sz49t rfl) ?_
  refine L_wv rfl rfl rfl rfl rfl rfl (V_loadT 0 (vs := sgV x.2.2.2.2.2.2) rfl rfl rfl Tryz.underlying49 rfl sz49t rfl rfl) ?_
  refine L_wv rfl rfl rfl rfl rfl rfl (V_fieldAddr rfl rfl Tryz.underlying51 rfl sz49t rfl) ?_
  refine L_wv rfl rfl rfl rfl rfl rfl (V_loadT 1 (vs := sgV x.2.2.2.2.2.2) rfl rfl rfl Tryz.underlying49 rfl sz49t rfl rfl) ?_
  refine L_wv rfl rfl rfl rfl rfl rfl (V_eqAgg rfl rfl rfl egS (fun w => eqSg _ w) rfl) ?_
  first | refine L_v rfl rfl rfl (V_pickT rfl rfl rfl) ?_ | refine L_v rfl rfl rfl (V_pickF rfl rfl rfl) ?_
  refine L_v rfl rfl rfl (V_move rfl rfl) ?_
  refine L_wv rfl rfl rfl rfl rfl rfl (V_fieldAddr rfl rfl Tryz.underlying51 rfl sz38t rfl) ?_
  refine L_wv rfl rfl rfl rfl rfl rfl (V_loadT 0 (vs := enV x.2.2.2.1 v1 v2) rfl rfl rfl Tryz.underlying38 rfl sz38t rfl rfl) ?_
  refine L_wv rfl rfl rfl rfl rfl rfl (V_fieldAddr rfl rfl Tryz.underlying51 rfl sz38t rfl) ?_
  refine L_wv rfl rfl rfl rfl rfl rfl (V_loadT 1 (vs := enV x.2.2.2.1 u1 u2) rfl rfl rfl Tryz.underlying38 rfl sz38t rfl rfl) ?_
  refine L_wcallV rfl rfl rfl rfl rfl rfl rfl rfl rfl tx10t (fun w1 hw => sameen_t x.2.2.2.1 v1 v2 u1 u2 w1 (OkW.fw hw (fun f hf => List.mem_append_left _ (List.mem_append_left _ hf))) (OkW.fw hw (fun f hf => List.mem_append_right _ (List.mem_append_left _ hf))) hB) ?_
  first | refine L_v rfl rfl rfl (V_pickT rfl rfl rfl) ?_ | refine L_v rfl rfl rfl (V_pickF rfl rfl rfl) ?_
  refine L_v rfl rfl rfl (V_move rfl rfl) ?_
  refine L_wv rfl rfl rfl rfl rfl rfl (V_fieldAddr rfl rfl Tryz.underlying51 rfl sz45t rfl) ?_
  refine L_wv rfl rfl rfl rfl rfl rfl (V_loadT 0 (vs := snV x.2.2.2.2.2.1 v3 v4) rfl rfl rfl Tryz.underlying45 rfl sz45t rfl rfl) ?_
  refine L_wv rfl rfl rfl rfl rfl rfl (V_fieldAddr rfl rfl Tryz.underlying51 rfl sz45t rfl) ?_
  refine L_wv rfl rfl rfl rfl rfl rfl (V_loadT 1 (vs := snV x.2.2.2.2.2.1 u3 u4) rfl rfl rfl Tryz.underlying45 rfl sz45t rfl rfl) ?_
  refine L_wcallV rfl rfl rfl rfl rfl rfl rfl rfl rfl tx46t (fun w1 hw => samesn_t x.2.2.2.2.2.1 v3 v4 u3 u4 w1 (OkW.fw hw (fun f hf => List.mem_append_left _ (List.mem_append_right _ hf))) (OkW.fw hw (fun f hf => List.mem_append_right _ (List.mem_append_right _ hf))) hB2) ?_
  first | refine L_v rfl rfl rfl (V_pickT rfl rfl rfl) ?_ | refine L_v rfl rfl rfl (V_pickF rfl rfl rfl) ?_
  refine L_v rfl rfl rfl (V_assign rfl rfl) ?_
  refine L_nil ?_
  change J _ _ _ _
  refine J_ret ?_
  change Kret _ _ _ Exit.ret _
  refine ret1 rfl rfl (RV_t rfl) ?_
  exact fun w' h => ⟨rfl, h.fr⟩

set_option maxHeartbeats 4000000 in
theorem entries_t (w : World) :
    Calls Tryz.prog 23 #[] w fun e w' => e = .returned (.bool true) ∧ Fr [] w w' := by
  refine calls_of (args := []) ([]) ([]) (clF nilB nilB ([], [])) Tryz.func23 rfl rfl (okFW fwNil) ?_
  refine J_seq ?_
  refine J_region ?_
  refine L_v rfl rfl rfl (V_assign rfl rfl) ?_
  refine L_nil ?_
  change J _ _ _ _
  refine J_seq ?_
  refine J_region ?_
  refine L_v rfl rfl rfl (V_build (vs := []) rfl rfl bdE0) ?_
  refine L_call rfl rfl rfl rfl tx9t (fun w1 hw => (putentry_w nilB nilB e0 w1 (OkW.fw hw (fun f hf => hf)) (by decide)).mono ?_)
  rw [encE0]
  rintro e w' ⟨hfr, a1, n1, c1, rfl, hs1, hc1, hn1⟩
  have hz1 : n1 = 43 := hs1.size.symm.trans rfl
  have hnw1 : ∀ k, (factB (.slice a1 n1 c1) z43).fp k → w.heap.size ≤ k := fun j hk => Nat.le_trans hw.fr.size (hn1 j hk)
  refine ⟨_, _, _, rfl, OkW.fr0F hw (fs2 := [factB (.slice a1 n1 c1) z43]) hfr (fun f hf => by obtain rfl := List.mem_singleton.1 hf; exact ⟨hs1, fun j hk => ⟨hn1 j hk, factB_lt hs1 j hk⟩⟩), rfl, ?_⟩
  refine L_v rfl rfl rfl (V_move rfl rfl) ?_
  refine L_v rfl rfl rfl (V_extract rfl rfl rfl) ?_
  refine L_v rfl rfl rfl (V_extract rfl rfl rfl) ?_
  refine L_v rfl rfl rfl (V_assign rfl rfl) ?_
  refine L_v rfl rfl rfl (V_assign rfl rfl) ?_
  refine L_nil ?_
  change J _ _ _ _
  refine J_seq ?_
  refine J_region ?_
  refine L_v rfl rfl rfl (V_move rfl rfl) ?_
  refine L_call rfl rfl rfl rfl tx7t (fun w1 hw => (getentry_w a1 n1 c1 z43 w1 (fB hw 2 rfl) bytz hc1 (by first | decide | omega)).mono ?_)
  rw [getW_put enC encE0]
  rintro e w' ⟨hfr, v, fs, rfl, hV, hf9⟩
  have hnw9 : ∀ f ∈ fs, ∀ k, f.fp k → w.heap.size ≤ k := fun f hf j hk => Nat.le_trans hw.fr.size ((hf9 f hf).2 j hk).1
  obtain ⟨ya1, yc1, ya2, yc2, rfl, rfl⟩ := hV
  refine ⟨_, _, _, rfl, OkW.fr0F hw hfr hf9, rfl, ?_⟩
  refine L_v rfl rfl rfl (V_move rfl rfl) ?_
  refine L_v rfl rfl rfl (V_extract rfl rfl rfl) ?_
  refine L_v rfl rfl rfl (V_extract rfl rfl rfl) ?_
  refine L_alloc rfl rfl rfl rfl z38t (fun b0 => ?_)
  refine L_storeW 0 rfl rfl rfl rfl rfl rfl (szd sz38t (by kernel_rfl)) (all_one (by kernel_rfl)) (by kernel_rfl) ?_
  refine L_v rfl rfl rfl (V_assign rfl rfl) ?_
  refine L_nil ?_
  change J _ _ _ _
  refine J_seq ?_
  refine J_region ?_
  refine L_call rfl rfl rfl rfl tx7t (fun w1 hw => (getentry_w none 0 0 [] w1 (SlB.nil _ _) byt0 (Nat.le_refl 0) (by decide)).mono ?_)
  rw [getW_en0]
  rintro e w' ⟨hfr, rfl⟩
  refine ⟨_, _, _, rfl, hw.fr0 hfr, rfl, ?_⟩
  refine L_v rfl rfl rfl (V_move rfl rfl) ?_
  refine L_v rfl rfl rfl (V_extract rfl rfl rfl) ?_
  refine L_v rfl rfl rfl (V_extract rfl rfl rfl) ?_
  refine L_alloc rfl rfl rfl rfl z38t (fun b1 => ?_)
  refine L_storeW 1 rfl rfl rfl rfl rfl rfl (szd sz38t (by kernel_rfl)) (all_one (by kernel_rfl)) (by kernel_rfl) ?_
  refine L_v rfl rfl rfl (V_assign rfl rfl) ?_
  refine L_nil ?_
  change J _ _ _ _
  refine J_seq ?_
  refine J_region ?_
  refine L_v rfl rfl rfl (V_move rfl rfl) ?_
  refine L_v rfl rfl rfl (V_eql rfl rfl rfl (by first | exact decide_eq_true (by omega) | exact decide_eq_false (by omega) | rfl)) ?_
  refine L_v rfl rfl rfl (V_move rfl rfl) ?_
  refine L_wv rfl rfl rfl rfl rfl rfl (V_move rfl rfl) ?_
  refine L_wv rfl rfl rfl rfl rfl rfl (V_len rfl rfl Tryz.underlying22 rfl) ?_
  refine L_wv rfl rfl rfl rfl rfl rfl (V_eql rfl rfl rfl (by first | exact decide_eq_true (by omega) | exact decide_eq_false (by omega) | rfl)) ?_
  first | refine L_v rfl rfl rfl (V_pickT rfl rfl rfl) ?_ | refine L_v rfl rfl rfl (V_pickF rfl rfl rfl) ?_
  refine L_v rfl rfl rfl (V_move rfl rfl) ?_
  refine L_wv rfl rfl rfl rfl rfl rfl (V_move rfl rfl) ?_
  refine L_wv rfl rfl rfl rfl rfl rfl (V_eql rfl rfl rfl (by first | exact decide_eq_true (by omega) | exact decide_eq_false (by omega) | rfl)) ?_
  first | refine L_v rfl rfl rfl (V_pickT rfl rfl rfl) ?_ | refine L_v rfl rfl rfl (V_pickF rfl rfl rfl) ?_
  refine L_v rfl rfl rfl (V_move rfl rfl) ?_
  refine L_wv rfl rfl rfl rfl rfl rfl (V_move rfl rfl) ?_
  refine L_wv rfl rfl rfl rfl rfl rfl (V_eql rfl rfl rfl (by first | exact decide_eq_true (by omega) | exact decide_eq_false (by omega) | rfl)) ?_
  first | refine L_v rfl rfl rfl (V_pickT rfl rfl rfl) ?_ | refine L_v rfl rfl rfl (V_pickF rfl rfl rfl) ?_
  refine L_v rfl rfl rfl (V_assign rfl rfl) ?_
  refine L_nil ?_
  change J _ _ _ _
  refine J_ret ?_
  change Kret _ _ _ Exit.ret _
  refine ret1 rfl rfl (RV_t rfl) ?_
  exact fun w' h => ⟨rfl, h.fr⟩

set_option maxHeartbeats 4000000 in
theorem records_t (w : World) :
    Calls Tryz.prog 24 #[] w fun e w' => e = .returned (.bool true) ∧ Fr [] w w' := by
  refine calls_of (args := []) ([]) ([]) (clF nilB nilB ([], []) ++ clF nilB nilB ([], [])) Tryz.func24 rfl rfl (okFW (FW.app fwNil fwNil)) ?_
  refine J_seq ?_
  refine J_region ?_
  refine L_v rfl rfl rfl (V_assign rfl rfl) ?_
  refine L_nil ?_
  change J _ _ _ _
  refine J_seq ?_
  refine J_region ?_
  refine L_v rfl rfl rfl (V_build (vs := [(0, .int .i64 1), (1, .int .i64 3), (2, .int .i64 2)]) rfl rfl bdRec0) ?_
  refine L_call rfl rfl rfl rfl tx13t (fun w1 hw => (putrecord_w nilB nilB nilB nilB r0 w1 (OkW.fw hw (fun f hf => hf)) (by decide)).mono ?_)
  rw [encR0]
  rintro e w' ⟨hfr, a1, n1, c1, rfl, hs1, hc1, hn1⟩
  obtain rfl : n1 = 149 := hs1.size.symm.trans rfl
  have hnw1 : ∀ k, (factB (.slice a1 149 c1) MR).fp k → w.heap.size ≤ k := fun j hk => Nat.le_trans hw.fr.size (hn1 j hk)
  refine ⟨_, _, _, rfl, OkW.fr0F hw (fs2 := [factB (.slice a1 149 c1) MR]) hfr (fun f hf => by obtain rfl := List.mem_singleton.1 hf; exact ⟨hs1, fun j hk => ⟨hn1 j hk, factB_lt hs1 j hk⟩⟩), rfl, ?_⟩
  refine L_v rfl rfl rfl (V_move rfl rfl) ?_
  refine L_v rfl rfl rfl (V_extract rfl rfl rfl) ?_
  refine L_v rfl rfl rfl (V_extract rfl rfl rfl) ?_
  refine L_v rfl rfl rfl (V_assign rfl rfl) ?_
  refine L_v rfl rfl rfl (V_assign rfl rfl) ?_
  refine L_nil ?_
  change J _ _ _ _
  refine J_seq ?_
  refine J_region ?_
  refine L_v rfl rfl rfl (V_move rfl rfl) ?_
  refine L_call rfl rfl rfl rfl tx11t (fun w1 hw => (getrecord_w a1 149 c1 MR w1 (fB hw 4 rfl) bytR hc1 (by first | decide | omega)).mono ?_)
  rw [getW_put recC encR0]
  rintro e w' ⟨hfr, v, fs, rfl, hV, hf9⟩
  have hnw9 : ∀ f ∈ fs, ∀ k, f.fp k → w.heap.size ≤ k := fun f hf j hk => Nat.le_trans hw.fr.size ((hf9 f hf).2 j hk).1
  obtain ⟨ya1, yc1, ya2, yc2, ya3, yc3, ya4, yc4, rfl, rfl⟩ := hV
  refine ⟨_, _, _, rfl, OkW.fr0F hw hfr hf9, rfl, ?_⟩
  refine L_v rfl rfl rfl (V_move rfl rfl) ?_
  refine L_v rfl rfl rfl (V_extract rfl rfl rfl) ?_
  refine L_v rfl rfl rfl (V_extract rfl rfl rfl) ?_
  refine L_alloc rfl rfl rfl rfl z51t (fun b0 => ?_)
  refine L_storeW 0 rfl rfl rfl rfl rfl rfl (szd sz51t (by kernel_rfl)) (all_one (by kernel_rfl)) (by kernel_rfl) ?_
  refine L_v rfl rfl rfl (V_assign rfl rfl) ?_
  refine L_nil ?_
  change J _ _ _ _
  refine J_seq ?_
  refine J_region ?_
  refine L_v rfl rfl rfl (V_move rfl rfl) ?_
  refine L_v rfl rfl rfl (V_move rfl rfl) ?_
  refine L_v rfl rfl rfl (V_len rfl rfl Tryz.underlying22 rfl) ?_
  refine L_v rfl rfl rfl (V_move rfl rfl) ?_
  refine L_v rfl rfl rfl (V_len rfl rfl Tryz.underlying22 rfl) ?_
  refine L_v rfl rfl rfl (V_min rfl rfl rfl rfl) ?_
  refine L_v rfl rfl rfl (V_sub rfl rfl rfl (by first | exact Go.IntWalk.i64_in _ (by omega) | rfl)) ?_
  refine L_v rfl rfl rfl (V_slice0 rfl rfl Tryz.underlying22 sz5t (Bd.at (v := 148) rfl rfl) rfl rfl (by first | omega | (simp; omega)) (by first | omega | (simp; omega))) ?_
  refine L_call rfl rfl rfl rfl tx11t (fun w1 hw => (getrecord_w a1 148 c1 (MR.take 148) w1 (SlB.take (fB hw 4 rfl) (by decide) _) (bytR.take _) (by omega) (by decide)).mono ?_)
  rw [getW_R1]
  rintro e w' ⟨hfr, rfl⟩
  refine ⟨_, _, _, rfl, hw.fr0 hfr, rfl, ?_⟩
  refine L_v rfl rfl rfl (V_move rfl rfl) ?_
  refine L_v rfl rfl rfl (V_extract rfl rfl rfl) ?_
  refine L_v rfl rfl rfl (V_extract rfl rfl rfl) ?_
  refine L_alloc rfl rfl rfl rfl z51t (fun b1 => ?_)
  refine L_storeW 1 rfl rfl rfl rfl rfl rfl (szd sz51t (by kernel_rfl)) (all_one (by kernel_rfl)) (by kernel_rfl) ?_
  refine L_v rfl rfl rfl (V_assign rfl rfl) ?_
  refine L_nil ?_
  change J _ _ _ _
  refine J_seq ?_
  refine J_region ?_
  refine L_v rfl rfl rfl (V_move rfl rfl) ?_
  refine L_v rfl rfl rfl (V_eql rfl rfl rfl (by first | exact decide_eq_true (by omega) | exact decide_eq_false (by omega) | rfl)) ?_
  refine L_v rfl rfl rfl (V_move rfl rfl) ?_
  refine L_wv rfl rfl rfl rfl rfl rfl (V_move rfl rfl) ?_
  refine L_wv rfl rfl rfl rfl rfl rfl (V_eql rfl rfl rfl (by first | exact decide_eq_true (by omega) | exact decide_eq_false (by omega) | rfl)) ?_
  first | refine L_v rfl rfl rfl (V_pickT rfl rfl rfl) ?_ | refine L_v rfl rfl rfl (V_pickF rfl rfl rfl) ?_
  refine L_v rfl rfl rfl (V_move rfl rfl) ?_
  refine L_wv rfl rfl rfl rfl rfl rfl (V_fieldAddr rfl rfl Tryz.underlying51 rfl sz3t rfl) ?_
  refine L_wv rfl rfl rfl rfl rfl rfl (V_load1 0 rfl rfl rfl Tryz.underlying3 rfl (by first | rfl | exact dg_get (by omega) (by omega))) ?_
  refine L_wv rfl rfl rfl rfl rfl rfl (V_eql rfl rfl rfl (by first | exact decide_eq_true (by omega) | exact decide_eq_false (by omega) | rfl)) ?_
  first | refine L_v rfl rfl rfl (V_pickT rfl rfl rfl) ?_ | refine L_v rfl rfl rfl (V_pickF rfl rfl rfl) ?_
  refine L_v rfl rfl rfl (V_move rfl rfl) ?_
  refine L_wv rfl rfl rfl rfl rfl rfl (V_fieldAddr rfl rfl Tryz.underlying51 rfl sz3t rfl) ?_
  refine L_wv rfl rfl rfl rfl rfl rfl (V_load1 0 rfl rfl rfl Tryz.underlying3 rfl (by first | rfl | exact dg_get (by omega) (by omega))) ?_
  refine L_wv rfl rfl rfl rfl rfl rfl (V_eql rfl rfl rfl (by first | exact decide_eq_true (by omega) | exact decide_eq_false (by omega) | rfl)) ?_
  first | refine L_v rfl rfl rfl (V_pickT rfl rfl rfl) ?_ | refine L_v rfl rfl rfl (V_pickF rfl rfl rfl) ?_
  refine L_v rfl rfl rfl (V_move rfl rfl) ?_
  refine L_wv rfl rfl rfl rfl rfl rfl (V_move rfl rfl) ?_
  refine L_wv rfl rfl rfl rfl rfl rfl (V_eql rfl rfl rfl (by first | exact decide_eq_true (by omega) | exact decide_eq_false (by omega) | rfl)) ?_
  first | refine L_v rfl rfl rfl (V_pickT rfl rfl rfl) ?_ | refine L_v rfl rfl rfl (V_pickF rfl rfl rfl) ?_
  refine L_v rfl rfl rfl (V_assign rfl rfl) ?_
  refine L_nil ?_
  change J _ _ _ _
  refine J_ret ?_
  change Kret _ _ _ Exit.ret _
  refine ret1 rfl rfl (RV_t rfl) ?_
  exact fun w' h => ⟨rfl, h.fr⟩

end Go.Proofs.YtfgcfjojpakpjaaGreat
