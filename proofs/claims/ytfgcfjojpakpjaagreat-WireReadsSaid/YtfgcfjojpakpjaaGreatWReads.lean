/- What the law WireReads comes to. -/
import Derived.Test.YtfgcfjojpakpjaaGreatWTGets
import Derived.Test.YtfgcfjojpakpjaaGreatWLawD
set_option linter.unusedVariables false
set_option linter.unusedSimpArgs false
set_option maxRecDepth 100000
namespace Go.Proofs.YtfgcfjojpakpjaaGreat
open Go.Sx
theorem J_joinX {cx : Cx} {Y : Code} {K : Exit → St → Prop} (st : St) {G : Prop} (hmain : J cx Y K st → G) (hrest : J cx Y K st) : G := hmain hrest
theorem encTs_ge : ∀ {ts : List Tok} {M : List Int}, encTs ts = .ok M → ts.length ≤ M.length
  | [], M, h => Nat.zero_le _
  | t :: ts, M, h => by
    obtain ⟨x, y, h1, h2, rfl⟩ := then2_ok h
    have := (encT_len h1).2
    have := encTs_ge h2
    rw [List.length_cons, List.length_append]
    omega
theorem dfx_mem2 {a b c : Fact} {x : List Fact} : ∀ f ∈ (a :: b :: c :: x), f ∈ (a :: x) ++ [b] ++ [c] := by
  intro f hf
  simp only [List.mem_append, List.mem_cons, List.not_mem_nil, or_false] at hf ⊢
  rcases hf with h | h | h | h
  · exact .inl (.inl (.inl h))
  · exact .inl (.inr h)
  · exact .inr h
  · exact .inl (.inl (.inr h))
theorem dr_len2 (e0 : Int) (us : List (Us × Value)) (hs : List Hd) (ss : List Se) : (drC.tk (e0, us.map Prod.fst, hs, ss)).length = 4 + ((us.map Prod.fst).flatMap usC.tk).length + 3 * hs.length + 4 * ss.length := by
  rw [← tkD_all, tkL_len (c := 4) (fun _ => rfl) (Nat.le_refl _), tkL_len (c := 3) (fun _ => rfl) (Nat.le_refl _), tkD1_len]
  omega
theorem us_le {us : List (Us × Value)} {B : Nat} (h : ((us.map Prod.fst).flatMap usC.tk).length ≤ B) : us.length ≤ B ∧ ∀ p ∈ us, p.1.2.length ≤ B := by
  induction us with
  | nil => exact ⟨Nat.zero_le _, fun p hp => by cases hp⟩
  | cons p us ih =>
    rw [List.map_cons, List.flatMap_cons, List.length_append, usT1_len] at h
    have := ih (by omega)
    refine ⟨?_, fun q hq => ?_⟩
    · have h9 : us.length ≤ ((us.map Prod.fst).flatMap usC.tk).length := by
        clear ih this h
        induction us with
        | nil => exact Nat.zero_le _
        | cons r us ih => rw [List.map_cons, List.flatMap_cons, List.length_append, usT1_len, List.length_cons]; omega
      rw [List.length_cons]
      omega
    · rcases List.mem_cons.1 hq with rfl | hq
      · omega
      · exact this.2 q hq
theorem zR0 : encTs (recC.tk (0, 0, 0, e0, 0, (0, 0, ([], []), ⟨#[]⟩), ((0, dz, dz), dz))) = .ok (List.replicate 149 0) := by rfl
theorem zS0 : encTs (sgC.tk ((0, dz, dz), dz)) = .ok (List.replicate 97 0) := by rfl
theorem zD0 : encTs (drC.tk (0, [], [], [])) = .ok [0, 0, 0, 0] := by rfl
theorem fw0 {w : World} : FW w (factC 2 nilB 0 [] :: factC 65 nilB 0 [] :: factC 4 nilB 0 [] :: []) := by
  have h3 : ∀ sz, SlC sz w nilB 0 [] := fun sz => .inl ⟨rfl, rfl, none, 0, rfl⟩
  exact .cons ⟨h3 2, factC_lt (h3 2)⟩ (.cons ⟨h3 65, factC_lt (h3 65)⟩ (.cons ⟨h3 4, factC_lt (h3 4)⟩ .nil))
theorem sz27rl : (Tryz.prog.info? 27).map (·.size) = some 38 := by kernel_rfl
theorem sz38rl : (Tryz.prog.info? 38).map (·.size) = some 43 := by kernel_rfl
theorem sz49rl : (Tryz.prog.info? 49).map (·.size) = some 97 := by kernel_rfl
theorem sz51rl : (Tryz.prog.info? 51).map (·.size) = some 149 := by kernel_rfl
theorem sz63rl : (Tryz.prog.info? 63).map (·.size) = some 4 := by kernel_rfl
theorem tx4rl : Txt Tryz.prog 4 := txt_of Tryz.func4 rfl (by kernel_rfl)
theorem tx5rl : Txt Tryz.prog 5 := txt_of Tryz.func5 rfl (by kernel_rfl)
theorem tx6rl : Txt Tryz.prog 6 := txt_of Tryz.func6 rfl (by kernel_rfl)
theorem tx7rl : Txt Tryz.prog 7 := txt_of Tryz.func7 rfl (by kernel_rfl)
theorem tx8rl : Txt Tryz.prog 8 := txt_of Tryz.func8 rfl (by kernel_rfl)
theorem tx9rl : Txt Tryz.prog 9 := txt_of Tryz.func9 rfl (by kernel_rfl)
theorem tx10rl : Txt Tryz.prog 10 := txt_of Tryz.func10 rfl (by kernel_rfl)
theorem tx11rl : Txt Tryz.prog 11 := txt_of Tryz.func11 rfl (by kernel_rfl)
theorem tx12rl : Txt Tryz.prog 12 := txt_of Tryz.func12 rfl (by kernel_rfl)
theorem tx13rl : Txt Tryz.prog 13 := txt_of Tryz.func13 rfl (by kernel_rfl)
theorem tx14rl : Txt Tryz.prog 14 := txt_of Tryz.func14 rfl (by kernel_rfl)
theorem tx15rl : Txt Tryz.prog 15 := txt_of Tryz.func15 rfl (by kernel_rfl)
theorem tx16rl : Txt Tryz.prog 16 := txt_of Tryz.func16 rfl (by kernel_rfl)
theorem tx17rl : Txt Tryz.prog 17 := txt_of Tryz.func17 rfl (by kernel_rfl)
theorem tx18rl : Txt Tryz.prog 18 := txt_of Tryz.func18 rfl (by kernel_rfl)
theorem tx19rl : Txt Tryz.prog 19 := txt_of Tryz.func19 rfl (by kernel_rfl)
theorem tx20rl : Txt Tryz.prog 20 := txt_of Tryz.func20 rfl (by kernel_rfl)
theorem tx21rl : Txt Tryz.prog 21 := txt_of Tryz.func21 rfl (by kernel_rfl)
theorem tx22rl : Txt Tryz.prog 22 := txt_of Tryz.func22 rfl (by kernel_rfl)
theorem tx23rl : Txt Tryz.prog 23 := txt_of Tryz.func23 rfl (by kernel_rfl)
theorem tx24rl : Txt Tryz.prog 24 := txt_of Tryz.func24 rfl (by kernel_rfl)
theorem tx25rl : Txt Tryz.prog 25 := txt_of Tryz.func25 rfl (by kernel_rfl)
theorem tx26rl : Txt Tryz.prog 26 := txt_of Tryz.func26 rfl (by kernel_rfl)
theorem z27rl : (Tryz.prog.info? 27).bind (·.zero) = some (.agg [.int .i64 0, .int .i64 0, .int .i64 0, .string ByteArray.empty, .string ByteArray.empty, .int .i64 0, .int .u8 0, .int .u8 0, .int .u8 0, .int .u8 0, .int .u8 0, .int .u8 0, .int .u8 0, .int .u8 0, .int .u8 0, .int .u8 0, .int .u8 0, .int .u8 0, .int .u8 0, .int .u8 0, .int .u8 0, .int .u8 0, .int .u8 0, .int .u8 0, .int .u8 0, .int .u8 0, .int .u8 0, .int .u8 0, .int .u8 0, .int .u8 0, .int .u8 0, .int .u8 0, .int .u8 0, .int .u8 0, .int .u8 0, .int .u8 0, .int .u8 0, .int .u8 0].toArray) := by kernel_rfl
theorem z38rl : (Tryz.prog.info? 38).bind (·.zero) = some (.agg [.int .i64 0, .int .i64 0, .int .i64 0, .int .i64 0, .int .i64 0, .int .i64 0, .string ByteArray.empty, .string ByteArray.empty, .int .i64 0, .int .u8 0, .int .u8 0, .int .u8 0, .int .u8 0, .int .u8 0, .int .u8 0, .int .u8 0, .int .u8 0, .int .u8 0, .int .u8 0, .int .u8 0, .int .u8 0, .int .u8 0, .int .u8 0, .int .u8 0, .int .u8 0, .int .u8 0, .int .u8 0, .int .u8 0, .int .u8 0, .int .u8 0, .int .u8 0, .int .u8 0, .int .u8 0, .int .u8 0, .int .u8 0, .int .u8 0, .int .u8 0, .int .u8 0, .int .u8 0, .int .u8 0, .int .u8 0, .slice none 0 0, .slice none 0 0].toArray) := by kernel_rfl
theorem z49rl : (Tryz.prog.info? 49).bind (·.zero) = some (.agg [.int .i64 0, .int .u8 0, .int .u8 0, .int .u8 0, .int .u8 0, .int .u8 0, .int .u8 0, .int .u8 0, .int .u8 0, .int .u8 0, .int .u8 0, .int .u8 0, .int .u8 0, .int .u8 0, .int .u8 0, .int .u8 0, .int .u8 0, .int .u8 0, .int .u8 0, .int .u8 0, .int .u8 0, .int .u8 0, .int .u8 0, .int .u8 0, .int .u8 0, .int .u8 0, .int .u8 0, .int .u8 0, .int .u8 0, .int .u8 0, .int .u8 0, .int .u8 0, .int .u8 0, .int .u8 0, .int .u8 0, .int .u8 0, .int .u8 0, .int .u8 0, .int .u8 0, .int .u8 0, .int .u8 0, .int .u8 0, .int .u8 0, .int .u8 0, .int .u8 0, .int .u8 0, .int .u8 0, .int .u8 0, .int .u8 0, .int .u8 0, .int .u8 0, .int .u8 0, .int .u8 0, .int .u8 0, .int .u8 0, .int .u8 0, .int .u8 0, .int .u8 0, .int .u8 0, .int .u8 0, .int .u8 0, .int .u8 0, .int .u8 0, .int .u8 0, .int .u8 0, .int .u8 0, .int .u8 0, .int .u8 0, .int .u8 0, .int .u8 0, .int .u8 0, .int .u8 0, .int .u8 0, .int .u8 0, .int .u8 0, .int .u8 0, .int .u8 0, .int .u8 0, .int .u8 0, .int .u8 0, .int .u8 0, .int .u8 0, .int .u8 0, .int .u8 0, .int .u8 0, .int .u8 0, .int .u8 0, .int .u8 0, .int .u8 0, .int .u8 0, .int .u8 0, .int .u8 0, .int .u8 0, .int .u8 0, .int .u8 0, .int .u8 0, .int .u8 0].toArray) := by kernel_rfl
theorem z51rl : (Tryz.prog.info? 51).bind (·.zero) = some (.agg [.int .i64 0, .int .i64 0, .int .i64 0, .int .i64 0, .int .i64 0, .int .i64 0, .int .i64 0, .int .i64 0, .int .i64 0, .string ByteArray.empty, .string ByteArray.empty, .int .i64 0, .int .u8 0, .int .u8 0, .int .u8 0, .int .u8 0, .int .u8 0, .int .u8 0, .int .u8 0, .int .u8 0, .int .u8 0, .int .u8 0, .int .u8 0, .int .u8 0, .int .u8 0, .int .u8 0, .int .u8 0, .int .u8 0, .int .u8 0, .int .u8 0, .int .u8 0, .int .u8 0, .int .u8 0, .int .u8 0, .int .u8 0, .int .u8 0, .int .u8 0, .int .u8 0, .int .u8 0, .int .u8 0, .int .u8 0, .int .u8 0, .int .u8 0, .int .u8 0, .slice none 0 0, .slice none 0 0, .int .i64 0, .int .i64 0, .int .i64 0, .slice none 0 0, .slice none 0 0, .string ByteArray.empty, .int .i64 0, .int .u8 0, .int .u8 0, .int .u8 0, .int .u8 0, .int .u8 0, .int .u8 0, .int .u8 0, .int .u8 0, .int .u8 0, .int .u8 0, .int .u8 0, .int .u8 0, .int .u8 0, .int .u8 0, .int .u8 0, .int .u8 0, .int .u8 0, .int .u8 0, .int .u8 0, .int .u8 0, .int .u8 0, .int .u8 0, .int .u8 0, .int .u8 0, .int .u8 0, .int .u8 0, .int .u8 0, .int .u8 0, .int .u8 0, .int .u8 0, .int .u8 0, .int .u8 0, .int .u8 0, .int .u8 0, .int .u8 0, .int .u8 0, .int .u8 0, .int .u8 0, .int .u8 0, .int .u8 0, .int .u8 0, .int .u8 0, .int .u8 0, .int .u8 0, .int .u8 0, .int .u8 0, .int .u8 0, .int .u8 0, .int .u8 0, .int .u8 0, .int .u8 0, .int .u8 0, .int .u8 0, .int .u8 0, .int .u8 0, .int .u8 0, .int .u8 0, .int .u8 0, .int .u8 0, .int .u8 0, .int .u8 0, .int .u8 0, .int .u8 0, .int .u8 0, .int .u8 0, .int .u8 0, .int .u8 0, .int .u8 0, .int .u8 0, .int .u8 0, .int .u8 0, .int .u8 0, .int .u8 0, .int .u8 0, .int .u8 0, .int .u8 0, .int .u8 0, .int .u8 0, .int .u8 0, .int .u8 0, .int .u8 0, .int .u8 0, .int .u8 0, .int .u8 0, .int .u8 0, .int .u8 0, .int .u8 0, .int .u8 0, .int .u8 0, .int .u8 0, .int .u8 0, .int .u8 0, .int .u8 0, .int .u8 0, .int .u8 0, .int .u8 0].toArray) := by kernel_rfl
theorem z63rl : (Tryz.prog.info? 63).bind (·.zero) = some (.agg [.int .i64 0, .slice none 0 0, .slice none 0 0, .slice none 0 0].toArray) := by kernel_rfl

set_option maxHeartbeats 16000000 in
theorem WireReads0_w (a : Option Addr) (n c : Nat) (l : List Int) (w : World) (hu : SlB w (.slice a n c) l) (hby : Byt l) (hcn : n ≤ c) :
    Calls Tryz.prog 3 #[.slice a n c] w fun e w' => e = .returned (.bool true) ∧ Fr [] w w' := by
  have hlz := hu.size
  refine calls_of (args := [.slice a n c]) ([]) ([]) ([factB (.slice a n c) l]) Tryz.func3 rfl rfl (okFW (.cons ⟨hu, factB_lt hu⟩ .nil)) ?_
  refine J_seq ?_
  refine J_region ?_
  refine L_v rfl rfl rfl (V_assign rfl rfl) ?_
  refine L_nil ?_
  change J _ _ _ _
  refine J_seq ?_
  refine J_seq ?_
  refine J_region ?_
  refine L_v rfl rfl rfl (V_move rfl rfl) ?_
  refine L_v rfl rfl rfl (V_len rfl rfl Tryz.underlying22 rfl) ?_
  refine L_v rfl rfl rfl (V_gtr rfl rfl rfl (by first | exact decide_eq_false (fun h => h rfl) | exact decide_eq_true (by omega) | exact decide_eq_false (by omega) | rfl)) ?_
  refine L_nil ?_
  change J _ _ _ _
  refine J_cond rfl (fun h1 => ?_) (fun h1 => ?_)
  ·
    first | (have h1 := of_decide_eq_true h1) | (have h1 := of_decide_eq_false h1) | skip
    refine J_seq ?_
    refine J_region ?_
    refine L_v rfl rfl rfl (V_assign rfl rfl) ?_
    refine L_nil ?_
    change J _ _ _ _
    refine J_ret ?_
    change Kret _ _ _ Exit.ret _
    refine ret1 rfl rfl (RV_t rfl) ?_
    exact fun w' h => ⟨rfl, h.fr⟩
  ·
    first | (have h1 := of_decide_eq_true h1) | (have h1 := of_decide_eq_false h1) | skip
    have hlB : l.length ≤ 262144 := by omega
    refine J_skip ?_
    change J _ _ _ _
    apply J_joinX ({ env := [(0, .slice a n c)], mem := [], facts := [factB (.slice a n c) l] })
    case hmain =>
      intro hB8
      rcases hG : getW cmdC l with _ | x
      ·
        refine J_seq ?_
        refine J_region ?_
        refine L_v rfl rfl rfl (V_move rfl rfl) ?_
        refine L_call rfl rfl rfl rfl tx4rl (fun w1 hw => (getcommand_w a n c l w1 ((hw.facts (factB (.slice a n c) l) (by first | exact List.mem_cons_self .. | exact List.mem_append_left _ (List.mem_cons_self ..) | exact List.mem_append_left _ (List.mem_append_left _ (List.mem_cons_self ..)))).1) hby hcn (by omega)).mono ?_)
        rw [hG]
        rintro e w' ⟨hfr, rfl⟩
        refine ⟨_, _, _, rfl, hw.fr0 hfr, rfl, ?_⟩
        refine L_v rfl rfl rfl (V_move rfl rfl) ?_
        refine L_v rfl rfl rfl (V_extract rfl rfl rfl) ?_
        refine L_v rfl rfl rfl (V_extract rfl rfl rfl) ?_
        refine L_alloc rfl rfl rfl rfl z27rl (fun b0 => ?_)
        refine L_storeW 0 rfl rfl rfl rfl rfl rfl (szd sz27rl (by kernel_rfl)) (all_one (by kernel_rfl)) (by kernel_rfl) ?_
        refine L_v rfl rfl rfl (V_assign rfl rfl) ?_
        refine L_nil ?_
        change J _ _ _ _
        refine J_seq ?_
        refine J_region ?_
        refine L_v rfl rfl rfl (V_move rfl rfl) ?_
        refine L_call rfl rfl rfl rfl tx5rl (fun w1 hw => (rgetcommand_w a n c l w1 ((hw.facts (factB (.slice a n c) l) (by first | exact List.mem_cons_self .. | exact List.mem_append_left _ (List.mem_cons_self ..) | exact List.mem_append_left _ (List.mem_append_left _ (List.mem_cons_self ..)))).1) hby hcn (by omega)).mono ?_)
        rw [hG]
        rintro e w' ⟨hfr, rfl⟩
        refine ⟨_, _, _, rfl, hw.fr0 hfr, rfl, ?_⟩
        refine L_v rfl rfl rfl (V_move rfl rfl) ?_
        refine L_v rfl rfl rfl (V_extract rfl rfl rfl) ?_
        refine L_v rfl rfl rfl (V_extract rfl rfl rfl) ?_
        refine L_alloc rfl rfl rfl rfl z27rl (fun b1 => ?_)
        refine L_storeW 1 rfl rfl rfl rfl rfl rfl (szd sz27rl (by kernel_rfl)) (all_one (by kernel_rfl)) (by kernel_rfl) ?_
        refine L_v rfl rfl rfl (V_assign rfl rfl) ?_
        refine L_nil ?_
        change J _ _ _ _
        refine J_seq ?_
        refine J_region ?_
        refine L_v rfl rfl rfl (V_loadW 0 rfl rfl rfl Tryz.underlying27 rfl (szd sz27rl (by kernel_rfl))) ?_
        refine L_call rfl rfl rfl rfl tx6rl (fun w1 hw => (putcommand_w c0 w1 (by decide)).mono ?_)
        rw [encC0]
        rintro e w' ⟨hfr, a5, n5, c5, rfl, hs5, hc5, hn5⟩
        have hnw5 : ∀ k, (factB (.slice a5 n5 c5) z38).fp k → w.heap.size ≤ k := fun j hk => Nat.le_trans hw.fr.size (hn5 j hk)
        refine ⟨_, _, _, rfl, OkW.fr0F hw (fs2 := [factB (.slice a5 n5 c5) z38]) hfr (fun f hf => by obtain rfl := List.mem_singleton.1 hf; exact ⟨hs5, fun j hk => ⟨hn5 j hk, factB_lt hs5 j hk⟩⟩), rfl, ?_⟩
        refine L_v rfl rfl rfl (V_move rfl rfl) ?_
        refine L_v rfl rfl rfl (V_extract rfl rfl rfl) ?_
        refine L_v rfl rfl rfl (V_extract rfl rfl rfl) ?_
        refine L_v rfl rfl rfl (V_assign rfl rfl) ?_
        refine L_v rfl rfl rfl (V_assign rfl rfl) ?_
        refine L_nil ?_
        change J _ _ _ _
        refine J_seq ?_
        refine J_seq ?_
        refine J_region ?_
        refine L_v rfl rfl rfl (V_move rfl rfl) ?_
        refine L_v rfl rfl rfl (V_move rfl rfl) ?_
        refine L_v rfl rfl rfl (V_neq rfl rfl rfl (by first | exact decide_eq_false (fun h => h rfl) | exact decide_eq_true (by omega) | exact decide_eq_false (by omega) | rfl)) ?_
        refine L_v rfl rfl rfl (V_move rfl rfl) ?_
        refine L_wv rfl rfl rfl rfl rfl rfl (V_loadW 0 rfl rfl rfl Tryz.underlying27 rfl (szd sz27rl (by kernel_rfl))) ?_
        refine L_wv rfl rfl rfl rfl rfl rfl (V_loadW 1 rfl rfl rfl Tryz.underlying27 rfl (szd sz27rl (by kernel_rfl))) ?_
        refine L_wv rfl rfl rfl rfl rfl rfl (V_neAgg rfl rfl rfl egC (fun w => eqCmd _ w) rfl) ?_
        first | refine L_v rfl rfl rfl (V_pickT rfl rfl rfl) ?_ | refine L_v rfl rfl rfl (V_pickF rfl rfl rfl) ?_
        refine L_v rfl rfl rfl (V_move rfl rfl) ?_
        refine L_wv rfl rfl rfl rfl rfl rfl (V_move rfl rfl) ?_
        refine L_wv rfl rfl rfl rfl rfl rfl (V_eql rfl rfl rfl (by first | exact decide_eq_false (fun h => h rfl) | exact decide_eq_true (by omega) | exact decide_eq_false (by omega) | rfl)) ?_
        refine L_wv rfl rfl rfl rfl rfl rfl (V_move rfl rfl) ?_
        refine L_skip rfl rfl rfl rfl rfl rfl rfl ?_
        refine L_skip rfl rfl rfl rfl rfl rfl rfl ?_
        refine L_skip rfl rfl rfl rfl rfl rfl rfl ?_
        refine L_skip rfl rfl rfl rfl rfl rfl rfl ?_
        refine L_skip rfl rfl rfl rfl rfl rfl rfl ?_
        first | refine L_wv rfl rfl rfl rfl rfl rfl (V_pickT rfl rfl rfl) ?_ | refine L_wv rfl rfl rfl rfl rfl rfl (V_pickF rfl rfl rfl) ?_
        first | refine L_v rfl rfl rfl (V_pickT rfl rfl rfl) ?_ | refine L_v rfl rfl rfl (V_pickF rfl rfl rfl) ?_
        refine L_nil ?_
        change J _ _ _ _
        refine J_false rfl ?_
        refine J_skip ?_
        change J _ _ _ _
        exact J_le (st' := { env := [(0, .slice a n c)], mem := [], facts := [factB (.slice a n c) l] }) ⟨⟨rfl, trivial⟩, List.nil_sublist _, (by intro f hf; obtain rfl := List.mem_singleton.1 hf; first | exact List.mem_cons_self .. | exact List.mem_append_left _ (List.mem_cons_self ..) | exact List.mem_append_left _ (List.mem_append_left _ (List.mem_cons_self ..)) | exact List.mem_append_left _ (List.mem_append_left _ (List.mem_append_left _ (List.mem_cons_self ..)))), rfl⟩ hB8
      ·
        have hB9 := getW_back cmdC hby hG
        have hge := encTs_ge hB9
        skip
        refine J_seq ?_
        refine J_region ?_
        refine L_v rfl rfl rfl (V_move rfl rfl) ?_
        refine L_call rfl rfl rfl rfl tx4rl (fun w1 hw => (getcommand_w a n c l w1 ((hw.facts (factB (.slice a n c) l) (by first | exact List.mem_cons_self .. | exact List.mem_append_left _ (List.mem_cons_self ..) | exact List.mem_append_left _ (List.mem_append_left _ (List.mem_cons_self ..)))).1) hby hcn (by omega)).mono ?_)
        rw [hG]
        rintro e w' ⟨hfr, v, fs, rfl, ⟨rfl, rfl⟩, hf⟩
        refine ⟨_, _, _, rfl, hw.fr0 hfr, rfl, ?_⟩
        refine L_v rfl rfl rfl (V_move rfl rfl) ?_
        refine L_v rfl rfl rfl (V_extract rfl rfl rfl) ?_
        refine L_v rfl rfl rfl (V_extract rfl rfl rfl) ?_
        refine L_alloc rfl rfl rfl rfl z27rl (fun b0 => ?_)
        refine L_storeW 0 rfl rfl rfl rfl rfl rfl (szd sz27rl (by kernel_rfl)) (all_one (by kernel_rfl)) (by kernel_rfl) ?_
        refine L_v rfl rfl rfl (V_assign rfl rfl) ?_
        refine L_nil ?_
        change J _ _ _ _
        refine J_seq ?_
        refine J_region ?_
        refine L_v rfl rfl rfl (V_move rfl rfl) ?_
        refine L_call rfl rfl rfl rfl tx5rl (fun w1 hw => (rgetcommand_w a n c l w1 ((hw.facts (factB (.slice a n c) l) (by first | exact List.mem_cons_self .. | exact List.mem_append_left _ (List.mem_cons_self ..) | exact List.mem_append_left _ (List.mem_append_left _ (List.mem_cons_self ..)))).1) hby hcn (by omega)).mono ?_)
        rw [hG]
        rintro e w' ⟨hfr, v, fs, rfl, ⟨rfl, rfl⟩, hf⟩
        refine ⟨_, _, _, rfl, hw.fr0 hfr, rfl, ?_⟩
        refine L_v rfl rfl rfl (V_move rfl rfl) ?_
        refine L_v rfl rfl rfl (V_extract rfl rfl rfl) ?_
        refine L_v rfl rfl rfl (V_extract rfl rfl rfl) ?_
        refine L_alloc rfl rfl rfl rfl z27rl (fun b1 => ?_)
        refine L_storeW 1 rfl rfl rfl rfl rfl rfl (szd sz27rl (by kernel_rfl)) (all_one (by kernel_rfl)) (by kernel_rfl) ?_
        refine L_v rfl rfl rfl (V_assign rfl rfl) ?_
        refine L_nil ?_
        change J _ _ _ _
        refine J_seq ?_
        refine J_region ?_
        refine L_v rfl rfl rfl (V_loadW 0 rfl rfl rfl Tryz.underlying27 rfl (szd sz27rl (by kernel_rfl))) ?_
        refine L_call rfl rfl rfl rfl tx6rl (fun w1 hw => (putcommand_w x w1 (by decide)).mono ?_)
        rw [hB9]
        rintro e w' ⟨hfr, a5, n5, c5, rfl, hs5, hc5, hn5⟩
        have hnw5 : ∀ k, (factB (.slice a5 n5 c5) l).fp k → w.heap.size ≤ k := fun j hk => Nat.le_trans hw.fr.size (hn5 j hk)
        refine ⟨_, _, _, rfl, OkW.fr0F hw (fs2 := [factB (.slice a5 n5 c5) l]) hfr (fun f hf => by obtain rfl := List.mem_singleton.1 hf; exact ⟨hs5, fun j hk => ⟨hn5 j hk, factB_lt hs5 j hk⟩⟩), rfl, ?_⟩
        refine L_v rfl rfl rfl (V_move rfl rfl) ?_
        refine L_v rfl rfl rfl (V_extract rfl rfl rfl) ?_
        refine L_v rfl rfl rfl (V_extract rfl rfl rfl) ?_
        refine L_v rfl rfl rfl (V_assign rfl rfl) ?_
        refine L_v rfl rfl rfl (V_assign rfl rfl) ?_
        refine L_nil ?_
        change J _ _ _ _
        refine J_seq ?_
        refine J_seq ?_
        refine J_region ?_
        refine L_v rfl rfl rfl (V_move rfl rfl) ?_
        refine L_v rfl rfl rfl (V_move rfl rfl) ?_
        refine L_v rfl rfl rfl (V_neq rfl rfl rfl (by first | exact decide_eq_false (fun h => h rfl) | exact decide_eq_true (by omega) | exact decide_eq_false (by omega) | rfl)) ?_
        refine L_v rfl rfl rfl (V_move rfl rfl) ?_
        refine L_wv rfl rfl rfl rfl rfl rfl (V_loadW 0 rfl rfl rfl Tryz.underlying27 rfl (szd sz27rl (by kernel_rfl))) ?_
        refine L_wv rfl rfl rfl rfl rfl rfl (V_loadW 1 rfl rfl rfl Tryz.underlying27 rfl (szd sz27rl (by kernel_rfl))) ?_
        refine L_wv rfl rfl rfl rfl rfl rfl (V_neAgg rfl rfl rfl egC (fun w => eqCmd _ w) rfl) ?_
        first | refine L_v rfl rfl rfl (V_pickT rfl rfl rfl) ?_ | refine L_v rfl rfl rfl (V_pickF rfl rfl rfl) ?_
        refine L_v rfl rfl rfl (V_move rfl rfl) ?_
        refine L_wv rfl rfl rfl rfl rfl rfl (V_move rfl rfl) ?_
        refine L_wv rfl rfl rfl rfl rfl rfl (V_eql rfl rfl rfl (by first | exact decide_eq_false (fun h => h rfl) | exact decide_eq_true (by omega) | exact decide_eq_false (by omega) | rfl)) ?_
        refine L_wv rfl rfl rfl rfl rfl rfl (V_move rfl rfl) ?_
        refine L_wv rfl rfl rfl rfl rfl rfl (V_move rfl rfl) ?_
        refine L_wv rfl rfl rfl rfl rfl rfl (V_str rfl rfl Tryz.underlying22 Tryz.underlying5 Tryz.underlying9 (fun w hw => (hw.facts _ (List.mem_append_right _ (List.mem_singleton.2 rfl))).1)) ?_
        refine L_wv rfl rfl rfl rfl rfl rfl (V_move rfl rfl) ?_
        refine L_wv rfl rfl rfl rfl rfl rfl (V_str rfl rfl Tryz.underlying22 Tryz.underlying5 Tryz.underlying9 (fun w hw => (hw.facts (factB (.slice a n c) l) (by first | exact List.mem_cons_self .. | exact List.mem_append_left _ (List.mem_cons_self ..) | exact List.mem_append_left _ (List.mem_append_left _ (List.mem_cons_self ..)) | exact List.mem_append_left _ (List.mem_append_left _ (List.mem_append_left _ (List.mem_cons_self ..))))).1)) ?_
        refine L_wv rfl rfl rfl rfl rfl rfl (V_neS rfl rfl rfl (decide_eq_false (fun h => h rfl))) ?_
        first | refine L_wv rfl rfl rfl rfl rfl rfl (V_pickT rfl rfl rfl) ?_ | refine L_wv rfl rfl rfl rfl rfl rfl (V_pickF rfl rfl rfl) ?_
        first | refine L_v rfl rfl rfl (V_pickT rfl rfl rfl) ?_ | refine L_v rfl rfl rfl (V_pickF rfl rfl rfl) ?_
        refine L_nil ?_
        change J _ _ _ _
        refine J_false rfl ?_
        refine J_skip ?_
        change J _ _ _ _
        exact J_le (st' := { env := [(0, .slice a n c)], mem := [], facts := [factB (.slice a n c) l] }) ⟨⟨rfl, trivial⟩, List.nil_sublist _, (by intro f hf; obtain rfl := List.mem_singleton.1 hf; first | exact List.mem_cons_self .. | exact List.mem_append_left _ (List.mem_cons_self ..) | exact List.mem_append_left _ (List.mem_append_left _ (List.mem_cons_self ..)) | exact List.mem_append_left _ (List.mem_append_left _ (List.mem_append_left _ (List.mem_cons_self ..)))), rfl⟩ hB8
    case hrest =>
      apply J_joinX ({ env := [(0, .slice a n c)], mem := [], facts := [factB (.slice a n c) l] })
      case hmain =>
        intro hB13
        rcases hG : getW enC l with _ | x
        ·
          refine J_seq ?_
          refine J_region ?_
          refine L_v rfl rfl rfl (V_move rfl rfl) ?_
          refine L_call rfl rfl rfl rfl tx7rl (fun w1 hw => (getentry_w a n c l w1 ((hw.facts (factB (.slice a n c) l) (by first | exact List.mem_cons_self .. | exact List.mem_append_left _ (List.mem_cons_self ..) | exact List.mem_append_left _ (List.mem_append_left _ (List.mem_cons_self ..)))).1) hby hcn (by omega)).mono ?_)
          rw [hG]
          rintro e w' ⟨hfr, rfl⟩
          refine ⟨_, _, _, rfl, hw.fr0 hfr, rfl, ?_⟩
          refine L_v rfl rfl rfl (V_move rfl rfl) ?_
          refine L_v rfl rfl rfl (V_extract rfl rfl rfl) ?_
          refine L_v rfl rfl rfl (V_extract rfl rfl rfl) ?_
          refine L_alloc rfl rfl rfl rfl z38rl (fun b0 => ?_)
          refine L_storeW 0 rfl rfl rfl rfl rfl rfl (szd sz38rl (by kernel_rfl)) (all_one (by kernel_rfl)) (by kernel_rfl) ?_
          refine L_v rfl rfl rfl (V_assign rfl rfl) ?_
          refine L_nil ?_
          change J _ _ _ _
          refine J_seq ?_
          refine J_region ?_
          refine L_v rfl rfl rfl (V_move rfl rfl) ?_
          refine L_call rfl rfl rfl rfl tx8rl (fun w1 hw => (rgetentry_w a n c l w1 ((hw.facts (factB (.slice a n c) l) (by first | exact List.mem_cons_self .. | exact List.mem_append_left _ (List.mem_cons_self ..) | exact List.mem_append_left _ (List.mem_append_left _ (List.mem_cons_self ..)))).1) hby hcn (by omega)).mono ?_)
          rw [hG]
          rintro e w' ⟨hfr, rfl⟩
          refine ⟨_, _, _, rfl, hw.fr0 hfr, rfl, ?_⟩
          refine L_v rfl rfl rfl (V_move rfl rfl) ?_
          refine L_v rfl rfl rfl (V_extract rfl rfl rfl) ?_
          refine L_v rfl rfl rfl (V_extract rfl rfl rfl) ?_
          refine L_alloc rfl rfl rfl rfl z38rl (fun b1 => ?_)
          refine L_storeW 1 rfl rfl rfl rfl rfl rfl (szd sz38rl (by kernel_rfl)) (all_one (by kernel_rfl)) (by kernel_rfl) ?_
          refine L_v rfl rfl rfl (V_assign rfl rfl) ?_
          refine L_nil ?_
          change J _ _ _ _
          refine J_seq ?_
          refine J_region ?_
          refine L_v rfl rfl rfl (V_loadW 0 rfl rfl rfl Tryz.underlying38 rfl (szd sz38rl (by kernel_rfl))) ?_
          refine L_call rfl rfl rfl rfl tx9rl (fun w1 hw => (putentry_w nilB nilB e0 w1 fwNil (by decide)).mono ?_)
          rw [encE0]
          rintro e w' ⟨hfr, a5, n5, c5, rfl, hs5, hc5, hn5⟩
          have hnw5 : ∀ k, (factB (.slice a5 n5 c5) z43).fp k → w.heap.size ≤ k := fun j hk => Nat.le_trans hw.fr.size (hn5 j hk)
          refine ⟨_, _, _, rfl, OkW.fr0F hw (fs2 := [factB (.slice a5 n5 c5) z43]) hfr (fun f hf => by obtain rfl := List.mem_singleton.1 hf; exact ⟨hs5, fun j hk => ⟨hn5 j hk, factB_lt hs5 j hk⟩⟩), rfl, ?_⟩
          refine L_v rfl rfl rfl (V_move rfl rfl) ?_
          refine L_v rfl rfl rfl (V_extract rfl rfl rfl) ?_
          refine L_v rfl rfl rfl (V_extract rfl rfl rfl) ?_
          refine L_v rfl rfl rfl (V_assign rfl rfl) ?_
          refine L_v rfl rfl rfl (V_assign rfl rfl) ?_
          refine L_nil ?_
          change J _ _ _ _
          refine J_seq ?_
          refine J_seq ?_
          refine J_region ?_
          refine L_v rfl rfl rfl (V_move rfl rfl) ?_
          refine L_v rfl rfl rfl (V_move rfl rfl) ?_
          refine L_v rfl rfl rfl (V_neq rfl rfl rfl (by first | exact decide_eq_false (fun h => h rfl) | exact decide_eq_true (by omega) | exact decide_eq_false (by omega) | rfl)) ?_
          refine L_v rfl rfl rfl (V_move rfl rfl) ?_
          refine L_wv rfl rfl rfl rfl rfl rfl (V_loadW 0 rfl rfl rfl Tryz.underlying38 rfl (szd sz38rl (by kernel_rfl))) ?_
          refine L_wv rfl rfl rfl rfl rfl rfl (V_loadW 1 rfl rfl rfl Tryz.underlying38 rfl (szd sz38rl (by kernel_rfl))) ?_
          refine L_wcallV rfl rfl rfl rfl rfl rfl rfl rfl rfl tx10rl (fun w1 hw => sameen_t e0 nilB nilB nilB nilB w1 fwNil fwNil ⟨by decide, by decide⟩) ?_
          refine L_wv rfl rfl rfl rfl rfl rfl (V_not rfl rfl rfl) ?_
          first | refine L_v rfl rfl rfl (V_pickT rfl rfl rfl) ?_ | refine L_v rfl rfl rfl (V_pickF rfl rfl rfl) ?_
          refine L_v rfl rfl rfl (V_move rfl rfl) ?_
          refine L_wv rfl rfl rfl rfl rfl rfl (V_move rfl rfl) ?_
          refine L_wv rfl rfl rfl rfl rfl rfl (V_eql rfl rfl rfl (by first | exact decide_eq_false (fun h => h rfl) | exact decide_eq_true (by omega) | exact decide_eq_false (by omega) | rfl)) ?_
          refine L_wv rfl rfl rfl rfl rfl rfl (V_move rfl rfl) ?_
          refine L_skip rfl rfl rfl rfl rfl rfl rfl ?_
          refine L_skip rfl rfl rfl rfl rfl rfl rfl ?_
          refine L_skip rfl rfl rfl rfl rfl rfl rfl ?_
          refine L_skip rfl rfl rfl rfl rfl rfl rfl ?_
          refine L_skip rfl rfl rfl rfl rfl rfl rfl ?_
          first | refine L_wv rfl rfl rfl rfl rfl rfl (V_pickT rfl rfl rfl) ?_ | refine L_wv rfl rfl rfl rfl rfl rfl (V_pickF rfl rfl rfl) ?_
          first | refine L_v rfl rfl rfl (V_pickT rfl rfl rfl) ?_ | refine L_v rfl rfl rfl (V_pickF rfl rfl rfl) ?_
          refine L_nil ?_
          change J _ _ _ _
          refine J_false rfl ?_
          refine J_skip ?_
          change J _ _ _ _
          exact J_le (st' := { env := [(0, .slice a n c)], mem := [], facts := [factB (.slice a n c) l] }) ⟨⟨rfl, trivial⟩, List.nil_sublist _, (by intro f hf; obtain rfl := List.mem_singleton.1 hf; first | exact List.mem_cons_self .. | exact List.mem_append_left _ (List.mem_cons_self ..) | exact List.mem_append_left _ (List.mem_append_left _ (List.mem_cons_self ..)) | exact List.mem_append_left _ (List.mem_append_left _ (List.mem_append_left _ (List.mem_cons_self ..)))), rfl⟩ hB13
        ·
          have hB9 := getW_back enC hby hG
          have hge := encTs_ge hB9
          have hlx := en_len x
          skip
          refine J_seq ?_
          refine J_region ?_
          refine L_v rfl rfl rfl (V_move rfl rfl) ?_
          refine L_call rfl rfl rfl rfl tx7rl (fun w1 hw => (getentry_w a n c l w1 ((hw.facts (factB (.slice a n c) l) (by first | exact List.mem_cons_self .. | exact List.mem_append_left _ (List.mem_cons_self ..) | exact List.mem_append_left _ (List.mem_append_left _ (List.mem_cons_self ..)))).1) hby hcn (by omega)).mono ?_)
          rw [hG]
          rintro e w' ⟨hfr, v, fs, rfl, hV, hf8⟩
          have hnw8 : ∀ f ∈ fs, ∀ k, f.fp k → w.heap.size ≤ k := fun f hf j hk => Nat.le_trans hw.fr.size ((hf8 f hf).2 j hk).1
          obtain ⟨ya1, yc1, ya2, yc2, rfl, rfl⟩ := hV
          refine ⟨_, _, _, rfl, OkW.fr0F hw hfr hf8, rfl, ?_⟩
          refine L_v rfl rfl rfl (V_move rfl rfl) ?_
          refine L_v rfl rfl rfl (V_extract rfl rfl rfl) ?_
          refine L_v rfl rfl rfl (V_extract rfl rfl rfl) ?_
          refine L_alloc rfl rfl rfl rfl z38rl (fun b0 => ?_)
          refine L_storeW 0 rfl rfl rfl rfl rfl rfl (szd sz38rl (by kernel_rfl)) (all_one (by kernel_rfl)) (by kernel_rfl) ?_
          refine L_v rfl rfl rfl (V_assign rfl rfl) ?_
          refine L_nil ?_
          change J _ _ _ _
          refine J_seq ?_
          refine J_region ?_
          refine L_v rfl rfl rfl (V_move rfl rfl) ?_
          refine L_call rfl rfl rfl rfl tx8rl (fun w1 hw => (rgetentry_w a n c l w1 ((hw.facts (factB (.slice a n c) l) (by first | exact List.mem_cons_self .. | exact List.mem_append_left _ (List.mem_cons_self ..) | exact List.mem_append_left _ (List.mem_append_left _ (List.mem_cons_self ..)))).1) hby hcn (by omega)).mono ?_)
          rw [hG]
          rintro e w' ⟨hfr, v, fs, rfl, hV, hf9⟩
          have hnw9 : ∀ f ∈ fs, ∀ k, f.fp k → w.heap.size ≤ k := fun f hf j hk => Nat.le_trans hw.fr.size ((hf9 f hf).2 j hk).1
          obtain ⟨za1, zc1, za2, zc2, rfl, rfl⟩ := hV
          refine ⟨_, _, _, rfl, OkW.fr0F hw hfr hf9, rfl, ?_⟩
          refine L_v rfl rfl rfl (V_move rfl rfl) ?_
          refine L_v rfl rfl rfl (V_extract rfl rfl rfl) ?_
          refine L_v rfl rfl rfl (V_extract rfl rfl rfl) ?_
          refine L_alloc rfl rfl rfl rfl z38rl (fun b1 => ?_)
          refine L_storeW 1 rfl rfl rfl rfl rfl rfl (szd sz38rl (by kernel_rfl)) (all_one (by kernel_rfl)) (by kernel_rfl) ?_
          refine L_v rfl rfl rfl (V_assign rfl rfl) ?_
          refine L_nil ?_
          change J _ _ _ _
          refine J_seq ?_
          refine J_region ?_
          refine L_v rfl rfl rfl (V_loadW 0 rfl rfl rfl Tryz.underlying38 rfl (szd sz38rl (by kernel_rfl))) ?_
          refine L_call rfl rfl rfl rfl tx9rl (fun w1 hw => (putentry_w (Sl ya1 x.2.2.2.2.1.length yc1) (Sl ya2 x.2.2.2.2.2.length yc2) x w1 (OkW.fw hw (fun f hf => List.mem_append_left _ (List.mem_append_right _ hf))) (by omega)).mono ?_)
          rw [hB9]
          rintro e w' ⟨hfr, a5, n5, c5, rfl, hs5, hc5, hn5⟩
          have hnw5 : ∀ k, (factB (.slice a5 n5 c5) l).fp k → w.heap.size ≤ k := fun j hk => Nat.le_trans hw.fr.size (hn5 j hk)
          refine ⟨_, _, _, rfl, OkW.fr0F hw (fs2 := [factB (.slice a5 n5 c5) l]) hfr (fun f hf => by obtain rfl := List.mem_singleton.1 hf; exact ⟨hs5, fun j hk => ⟨hn5 j hk, factB_lt hs5 j hk⟩⟩), rfl, ?_⟩
          refine L_v rfl rfl rfl (V_move rfl rfl) ?_
          refine L_v rfl rfl rfl (V_extract rfl rfl rfl) ?_
          refine L_v rfl rfl rfl (V_extract rfl rfl rfl) ?_
          refine L_v rfl rfl rfl (V_assign rfl rfl) ?_
          refine L_v rfl rfl rfl (V_assign rfl rfl) ?_
          refine L_nil ?_
          change J _ _ _ _
          refine J_seq ?_
          refine J_seq ?_
          refine J_region ?_
          refine L_v rfl rfl rfl (V_move rfl rfl) ?_
          refine L_v rfl rfl rfl (V_move rfl rfl) ?_
          refine L_v rfl rfl rfl (V_neq rfl rfl rfl (by first | exact decide_eq_false (fun h => h rfl) | exact decide_eq_true (by omega) | exact decide_eq_false (by omega) | rfl)) ?_
          refine L_v rfl rfl rfl (V_move rfl rfl) ?_
          refine L_wv rfl rfl rfl rfl rfl rfl (V_loadW 0 rfl rfl rfl Tryz.underlying38 rfl (szd sz38rl (by kernel_rfl))) ?_
          refine L_wv rfl rfl rfl rfl rfl rfl (V_loadW 1 rfl rfl rfl Tryz.underlying38 rfl (szd sz38rl (by kernel_rfl))) ?_
          refine L_wcallV rfl rfl rfl rfl rfl rfl rfl rfl rfl tx10rl (fun w1 hw => sameen_t x _ _ _ _ w1 (OkW.fw hw (fun f hf => List.mem_append_left _ (List.mem_append_left _ (List.mem_append_right _ hf)))) (OkW.fw hw (fun f hf => List.mem_append_left _ (List.mem_append_right _ hf))) ⟨by omega, by omega⟩) ?_
          refine L_wv rfl rfl rfl rfl rfl rfl (V_not rfl rfl rfl) ?_
          first | refine L_v rfl rfl rfl (V_pickT rfl rfl rfl) ?_ | refine L_v rfl rfl rfl (V_pickF rfl rfl rfl) ?_
          refine L_v rfl rfl rfl (V_move rfl rfl) ?_
          refine L_wv rfl rfl rfl rfl rfl rfl (V_move rfl rfl) ?_
          refine L_wv rfl rfl rfl rfl rfl rfl (V_eql rfl rfl rfl (by first | exact decide_eq_false (fun h => h rfl) | exact decide_eq_true (by omega) | exact decide_eq_false (by omega) | rfl)) ?_
          refine L_wv rfl rfl rfl rfl rfl rfl (V_move rfl rfl) ?_
          refine L_wv rfl rfl rfl rfl rfl rfl (V_move rfl rfl) ?_
          refine L_wv rfl rfl rfl rfl rfl rfl (V_str rfl rfl Tryz.underlying22 Tryz.underlying5 Tryz.underlying9 (fun w hw => (hw.facts _ (List.mem_append_right _ (List.mem_singleton.2 rfl))).1)) ?_
          refine L_wv rfl rfl rfl rfl rfl rfl (V_move rfl rfl) ?_
          refine L_wv rfl rfl rfl rfl rfl rfl (V_str rfl rfl Tryz.underlying22 Tryz.underlying5 Tryz.underlying9 (fun w hw => (hw.facts (factB (.slice a n c) l) (by first | exact List.mem_cons_self .. | exact List.mem_append_left _ (List.mem_cons_self ..) | exact List.mem_append_left _ (List.mem_append_left _ (List.mem_cons_self ..)) | exact List.mem_append_left _ (List.mem_append_left _ (List.mem_append_left _ (List.mem_cons_self ..))))).1)) ?_
          refine L_wv rfl rfl rfl rfl rfl rfl (V_neS rfl rfl rfl (decide_eq_false (fun h => h rfl))) ?_
          first | refine L_wv rfl rfl rfl rfl rfl rfl (V_pickT rfl rfl rfl) ?_ | refine L_wv rfl rfl rfl rfl rfl rfl (V_pickF rfl rfl rfl) ?_
          first | refine L_v rfl rfl rfl (V_pickT rfl rfl rfl) ?_ | refine L_v rfl rfl rfl (V_pickF rfl rfl rfl) ?_
          refine L_nil ?_
          change J _ _ _ _
          refine J_false rfl ?_
          refine J_skip ?_
          change J _ _ _ _
          exact J_le (st' := { env := [(0, .slice a n c)], mem := [], facts := [factB (.slice a n c) l] }) ⟨⟨rfl, trivial⟩, List.nil_sublist _, (by intro f hf; obtain rfl := List.mem_singleton.1 hf; first | exact List.mem_cons_self .. | exact List.mem_append_left _ (List.mem_cons_self ..) | exact List.mem_append_left _ (List.mem_append_left _ (List.mem_cons_self ..)) | exact List.mem_append_left _ (List.mem_append_left _ (List.mem_append_left _ (List.mem_cons_self ..)))), rfl⟩ hB13
      case hrest =>
        apply J_joinX ({ env := [(0, .slice a n c)], mem := [], facts := [factB (.slice a n c) l] })
        case hmain =>
          intro hB18
          rcases hG : getW recC l with _ | x
          ·
            refine J_seq ?_
            refine J_region ?_
            refine L_v rfl rfl rfl (V_move rfl rfl) ?_
            refine L_call rfl rfl rfl rfl tx11rl (fun w1 hw => (getrecord_w a n c l w1 ((hw.facts (factB (.slice a n c) l) (by first | exact List.mem_cons_self .. | exact List.mem_append_left _ (List.mem_cons_self ..) | exact List.mem_append_left _ (List.mem_append_left _ (List.mem_cons_self ..)))).1) hby hcn (by omega)).mono ?_)
            rw [hG]
            rintro e w' ⟨hfr, rfl⟩
            refine ⟨_, _, _, rfl, hw.fr0 hfr, rfl, ?_⟩
            refine L_v rfl rfl rfl (V_move rfl rfl) ?_
            refine L_v rfl rfl rfl (V_extract rfl rfl rfl) ?_
            refine L_v rfl rfl rfl (V_extract rfl rfl rfl) ?_
            refine L_alloc rfl rfl rfl rfl z51rl (fun b0 => ?_)
            refine L_storeW 0 rfl rfl rfl rfl rfl rfl (szd sz51rl (by kernel_rfl)) (all_one (by kernel_rfl)) (by kernel_rfl) ?_
            refine L_v rfl rfl rfl (V_assign rfl rfl) ?_
            refine L_nil ?_
            change J _ _ _ _
            refine J_seq ?_
            refine J_region ?_
            refine L_v rfl rfl rfl (V_move rfl rfl) ?_
            refine L_call rfl rfl rfl rfl tx12rl (fun w1 hw => (rgetrecord_w a n c l w1 ((hw.facts (factB (.slice a n c) l) (by first | exact List.mem_cons_self .. | exact List.mem_append_left _ (List.mem_cons_self ..) | exact List.mem_append_left _ (List.mem_append_left _ (List.mem_cons_self ..)))).1) hby hcn (by omega)).mono ?_)
            rw [hG]
            rintro e w' ⟨hfr, rfl⟩
            refine ⟨_, _, _, rfl, hw.fr0 hfr, rfl, ?_⟩
            refine L_v rfl rfl rfl (V_move rfl rfl) ?_
            refine L_v rfl rfl rfl (V_extract rfl rfl rfl) ?_
            refine L_v rfl rfl rfl (V_extract rfl rfl rfl) ?_
            refine L_alloc rfl rfl rfl rfl z51rl (fun b1 => ?_)
            refine L_storeW 1 rfl rfl rfl rfl rfl rfl (szd sz51rl (by kernel_rfl)) (all_one (by kernel_rfl)) (by kernel_rfl) ?_
            refine L_v rfl rfl rfl (V_assign rfl rfl) ?_
            refine L_nil ?_
            change J _ _ _ _
            refine J_seq ?_
            refine J_region ?_
            refine L_v rfl rfl rfl (V_loadW 0 rfl rfl rfl Tryz.underlying51 rfl (szd sz51rl (by kernel_rfl))) ?_
            refine L_call rfl rfl rfl rfl tx13rl (fun w1 hw => (putrecord_w nilB nilB nilB nilB (0, 0, 0, e0, 0, (0, 0, ([], []), ⟨#[]⟩), ((0, dz, dz), dz)) w1 (FW.app fwNil fwNil) (by decide)).mono ?_)
            rw [zR0]
            rintro e w' ⟨hfr, a5, n5, c5, rfl, hs5, hc5, hn5⟩
            have hnw5 : ∀ k, (factB (.slice a5 n5 c5) (List.replicate 149 0)).fp k → w.heap.size ≤ k := fun j hk => Nat.le_trans hw.fr.size (hn5 j hk)
            refine ⟨_, _, _, rfl, OkW.fr0F hw (fs2 := [factB (.slice a5 n5 c5) (List.replicate 149 0)]) hfr (fun f hf => by obtain rfl := List.mem_singleton.1 hf; exact ⟨hs5, fun j hk => ⟨hn5 j hk, factB_lt hs5 j hk⟩⟩), rfl, ?_⟩
            refine L_v rfl rfl rfl (V_move rfl rfl) ?_
            refine L_v rfl rfl rfl (V_extract rfl rfl rfl) ?_
            refine L_v rfl rfl rfl (V_extract rfl rfl rfl) ?_
            refine L_v rfl rfl rfl (V_assign rfl rfl) ?_
            refine L_v rfl rfl rfl (V_assign rfl rfl) ?_
            refine L_nil ?_
            change J _ _ _ _
            refine J_seq ?_
            refine J_seq ?_
            refine J_region ?_
            refine L_v rfl rfl rfl (V_move rfl rfl) ?_
            refine L_v rfl rfl rfl (V_move rfl rfl) ?_
            refine L_v rfl rfl rfl (V_neq rfl rfl rfl (by first | exact decide_eq_false (fun h => h rfl) | exact decide_eq_true (by omega) | exact decide_eq_false (by omega) | rfl)) ?_
            refine L_v rfl rfl rfl (V_move rfl rfl) ?_
            refine L_wv rfl rfl rfl rfl rfl rfl (V_loadW 0 rfl rfl rfl Tryz.underlying51 rfl (szd sz51rl (by kernel_rfl))) ?_
            refine L_wv rfl rfl rfl rfl rfl rfl (V_loadW 1 rfl rfl rfl Tryz.underlying51 rfl (szd sz51rl (by kernel_rfl))) ?_
            refine L_wcallV rfl rfl rfl rfl rfl rfl rfl rfl rfl tx14rl (fun w1 hw => samerec_t (0, 0, 0, e0, 0, (0, 0, ([], []), ⟨#[]⟩), ((0, dz, dz), dz)) nilB nilB nilB nilB nilB nilB nilB nilB w1 (FW.app fwNil fwNil) (FW.app fwNil fwNil) ⟨by decide, by decide⟩ ⟨by decide, by decide⟩) ?_
            refine L_wv rfl rfl rfl rfl rfl rfl (V_not rfl rfl rfl) ?_
            first | refine L_v rfl rfl rfl (V_pickT rfl rfl rfl) ?_ | refine L_v rfl rfl rfl (V_pickF rfl rfl rfl) ?_
            refine L_v rfl rfl rfl (V_move rfl rfl) ?_
            refine L_wv rfl rfl rfl rfl rfl rfl (V_move rfl rfl) ?_
            refine L_wv rfl rfl rfl rfl rfl rfl (V_eql rfl rfl rfl (by first | exact decide_eq_false (fun h => h rfl) | exact decide_eq_true (by omega) | exact decide_eq_false (by omega) | rfl)) ?_
            refine L_wv rfl rfl rfl rfl rfl rfl (V_move rfl rfl) ?_
            refine L_skip rfl rfl rfl rfl rfl rfl rfl ?_
            refine L_skip rfl rfl rfl rfl rfl rfl rfl ?_
            refine L_skip rfl rfl rfl rfl rfl rfl rfl ?_
            refine L_skip rfl rfl rfl rfl rfl rfl rfl ?_
            refine L_skip rfl rfl rfl rfl rfl rfl rfl ?_
            first | refine L_wv rfl rfl rfl rfl rfl rfl (V_pickT rfl rfl rfl) ?_ | refine L_wv rfl rfl rfl rfl rfl rfl (V_pickF rfl rfl rfl) ?_
            first | refine L_v rfl rfl rfl (V_pickT rfl rfl rfl) ?_ | refine L_v rfl rfl rfl (V_pickF rfl rfl rfl) ?_
            refine L_nil ?_
            change J _ _ _ _
            refine J_false rfl ?_
            refine J_skip ?_
            change J _ _ _ _
            exact J_le (st' := { env := [(0, .slice a n c)], mem := [], facts := [factB (.slice a n c) l] }) ⟨⟨rfl, trivial⟩, List.nil_sublist _, (by intro f hf; obtain rfl := List.mem_singleton.1 hf; first | exact List.mem_cons_self .. | exact List.mem_append_left _ (List.mem_cons_self ..) | exact List.mem_append_left _ (List.mem_append_left _ (List.mem_cons_self ..)) | exact List.mem_append_left _ (List.mem_append_left _ (List.mem_append_left _ (List.mem_cons_self ..)))), rfl⟩ hB18
          ·
            have hB9 := getW_back recC hby hG
            have hge := encTs_ge hB9
            have hlx := rec_len x
            skip
            refine J_seq ?_
            refine J_region ?_
            refine L_v rfl rfl rfl (V_move rfl rfl) ?_
            refine L_call rfl rfl rfl rfl tx11rl (fun w1 hw => (getrecord_w a n c l w1 ((hw.facts (factB (.slice a n c) l) (by first | exact List.mem_cons_self .. | exact List.mem_append_left _ (List.mem_cons_self ..) | exact List.mem_append_left _ (List.mem_append_left _ (List.mem_cons_self ..)))).1) hby hcn (by omega)).mono ?_)
            rw [hG]
            rintro e w' ⟨hfr, v, fs, rfl, hV, hf8⟩
            have hnw8 : ∀ f ∈ fs, ∀ k, f.fp k → w.heap.size ≤ k := fun f hf j hk => Nat.le_trans hw.fr.size ((hf8 f hf).2 j hk).1
            obtain ⟨ya1, yc1, ya2, yc2, ya3, yc3, ya4, yc4, rfl, rfl⟩ := hV
            refine ⟨_, _, _, rfl, OkW.fr0F hw hfr hf8, rfl, ?_⟩
            refine L_v rfl rfl rfl (V_move rfl rfl) ?_
            refine L_v rfl rfl rfl (V_extract rfl rfl rfl) ?_
            refine L_v rfl rfl rfl (V_extract rfl rfl rfl) ?_
            refine L_alloc rfl rfl rfl rfl z51rl (fun b0 => ?_)
            refine L_storeW 0 rfl rfl rfl rfl rfl rfl (szd sz51rl (by kernel_rfl)) (all_one (by kernel_rfl)) (by kernel_rfl) ?_
            refine L_v rfl rfl rfl (V_assign rfl rfl) ?_
            refine L_nil ?_
            change J _ _ _ _
            refine J_seq ?_
            refine J_region ?_
            refine L_v rfl rfl rfl (V_move rfl rfl) ?_
            refine L_call rfl rfl rfl rfl tx12rl (fun w1 hw => (rgetrecord_w a n c l w1 ((hw.facts (factB (.slice a n c) l) (by first | exact List.mem_cons_self .. | exact List.mem_append_left _ (List.mem_cons_self ..) | exact List.mem_append_left _ (List.mem_append_left _ (List.mem_cons_self ..)))).1) hby hcn (by omega)).mono ?_)
            rw [hG]
            rintro e w' ⟨hfr, v, fs, rfl, hV, hf9⟩
            have hnw9 : ∀ f ∈ fs, ∀ k, f.fp k → w.heap.size ≤ k := fun f hf j hk => Nat.le_trans hw.fr.size ((hf9 f hf).2 j hk).1
            obtain ⟨za1, zc1, za2, zc2, za3, zc3, za4, zc4, rfl, rfl⟩ := hV
            refine ⟨_, _, _, rfl, OkW.fr0F hw hfr hf9, rfl, ?_⟩
            refine L_v rfl rfl rfl (V_move rfl rfl) ?_
            refine L_v rfl rfl rfl (V_extract rfl rfl rfl) ?_
            refine L_v rfl rfl rfl (V_extract rfl rfl rfl) ?_
            refine L_alloc rfl rfl rfl rfl z51rl (fun b1 => ?_)
            refine L_storeW 1 rfl rfl rfl rfl rfl rfl (szd sz51rl (by kernel_rfl)) (all_one (by kernel_rfl)) (by kernel_rfl) ?_
            refine L_v rfl rfl rfl (V_assign rfl rfl) ?_
            refine L_nil ?_
            change J _ _ _ _
            refine J_seq ?_
            refine J_region ?_
            refine L_v rfl rfl rfl (V_loadW 0 rfl rfl rfl Tryz.underlying51 rfl (szd sz51rl (by kernel_rfl))) ?_
            refine L_call rfl rfl rfl rfl tx13rl (fun w1 hw => (putrecord_w _ _ _ _ x w1 (OkW.fw hw (fun f hf => List.mem_append_left _ (List.mem_append_right _ hf))) (by omega)).mono ?_)
            rw [hB9]
            rintro e w' ⟨hfr, a5, n5, c5, rfl, hs5, hc5, hn5⟩
            have hnw5 : ∀ k, (factB (.slice a5 n5 c5) l).fp k → w.heap.size ≤ k := fun j hk => Nat.le_trans hw.fr.size (hn5 j hk)
            refine ⟨_, _, _, rfl, OkW.fr0F hw (fs2 := [factB (.slice a5 n5 c5) l]) hfr (fun f hf => by obtain rfl := List.mem_singleton.1 hf; exact ⟨hs5, fun j hk => ⟨hn5 j hk, factB_lt hs5 j hk⟩⟩), rfl, ?_⟩
            refine L_v rfl rfl rfl (V_move rfl rfl) ?_
            refine L_v rfl rfl rfl (V_extract rfl rfl rfl) ?_
            refine L_v rfl rfl rfl (V_extract rfl rfl rfl) ?_
            refine L_v rfl rfl rfl (V_assign rfl rfl) ?_
            refine L_v rfl rfl rfl (V_assign rfl rfl) ?_
            refine L_nil ?_
            change J _ _ _ _
            refine J_seq ?_
            refine J_seq ?_
            refine J_region ?_
            refine L_v rfl rfl rfl (V_move rfl rfl) ?_
            refine L_v rfl rfl rfl (V_move rfl rfl) ?_
            refine L_v rfl rfl rfl (V_neq rfl rfl rfl (by first | exact decide_eq_false (fun h => h rfl) | exact decide_eq_true (by omega) | exact decide_eq_false (by omega) | rfl)) ?_
            refine L_v rfl rfl rfl (V_move rfl rfl) ?_
            refine L_wv rfl rfl rfl rfl rfl rfl (V_loadW 0 rfl rfl rfl Tryz.underlying51 rfl (szd sz51rl (by kernel_rfl))) ?_
            refine L_wv rfl rfl rfl rfl rfl rfl (V_loadW 1 rfl rfl rfl Tryz.underlying51 rfl (szd sz51rl (by kernel_rfl))) ?_
            refine L_wcallV rfl rfl rfl rfl rfl rfl rfl rfl rfl tx14rl (fun w1 hw => samerec_t x _ _ _ _ _ _ _ _ w1 (OkW.fw hw (fun f hf => List.mem_append_left _ (List.mem_append_left _ (List.mem_append_right _ hf)))) (OkW.fw hw (fun f hf => List.mem_append_left _ (List.mem_append_right _ hf))) ⟨by omega, by omega⟩ ⟨by omega, by omega⟩) ?_
            refine L_wv rfl rfl rfl rfl rfl rfl (V_not rfl rfl rfl) ?_
            first | refine L_v rfl rfl rfl (V_pickT rfl rfl rfl) ?_ | refine L_v rfl rfl rfl (V_pickF rfl rfl rfl) ?_
            refine L_v rfl rfl rfl (V_move rfl rfl) ?_
            refine L_wv rfl rfl rfl rfl rfl rfl (V_move rfl rfl) ?_
            refine L_wv rfl rfl rfl rfl rfl rfl (V_eql rfl rfl rfl (by first | exact decide_eq_false (fun h => h rfl) | exact decide_eq_true (by omega) | exact decide_eq_false (by omega) | rfl)) ?_
            refine L_wv rfl rfl rfl rfl rfl rfl (V_move rfl rfl) ?_
            refine L_wv rfl rfl rfl rfl rfl rfl (V_move rfl rfl) ?_
            refine L_wv rfl rfl rfl rfl rfl rfl (V_str rfl rfl Tryz.underlying22 Tryz.underlying5 Tryz.underlying9 (fun w hw => (hw.facts _ (List.mem_append_right _ (List.mem_singleton.2 rfl))).1)) ?_
            refine L_wv rfl rfl rfl rfl rfl rfl (V_move rfl rfl) ?_
            refine L_wv rfl rfl rfl rfl rfl rfl (V_str rfl rfl Tryz.underlying22 Tryz.underlying5 Tryz.underlying9 (fun w hw => (hw.facts (factB (.slice a n c) l) (by first | exact List.mem_cons_self .. | exact List.mem_append_left _ (List.mem_cons_self ..) | exact List.mem_append_left _ (List.mem_append_left _ (List.mem_cons_self ..)) | exact List.mem_append_left _ (List.mem_append_left _ (List.mem_append_left _ (List.mem_cons_self ..))))).1)) ?_
            refine L_wv rfl rfl rfl rfl rfl rfl (V_neS rfl rfl rfl (decide_eq_false (fun h => h rfl))) ?_
            first | refine L_wv rfl rfl rfl rfl rfl rfl (V_pickT rfl rfl rfl) ?_ | refine L_wv rfl rfl rfl rfl rfl rfl (V_pickF rfl rfl rfl) ?_
            first | refine L_v rfl rfl rfl (V_pickT rfl rfl rfl) ?_ | refine L_v rfl rfl rfl (V_pickF rfl rfl rfl) ?_
            refine L_nil ?_
            change J _ _ _ _
            refine J_false rfl ?_
            refine J_skip ?_
            change J _ _ _ _
            exact J_le (st' := { env := [(0, .slice a n c)], mem := [], facts := [factB (.slice a n c) l] }) ⟨⟨rfl, trivial⟩, List.nil_sublist _, (by intro f hf; obtain rfl := List.mem_singleton.1 hf; first | exact List.mem_cons_self .. | exact List.mem_append_left _ (List.mem_cons_self ..) | exact List.mem_append_left _ (List.mem_append_left _ (List.mem_cons_self ..)) | exact List.mem_append_left _ (List.mem_append_left _ (List.mem_append_left _ (List.mem_cons_self ..)))), rfl⟩ hB18
        case hrest =>
          apply J_joinX ({ env := [(0, .slice a n c)], mem := [], facts := [factB (.slice a n c) l] })
          case hmain =>
            intro hB23
            rcases hG : getW sgC l with _ | x
            ·
              refine J_seq ?_
              refine J_region ?_
              refine L_v rfl rfl rfl (V_move rfl rfl) ?_
              refine L_call rfl rfl rfl rfl tx15rl (fun w1 hw => (getsigned_w a n c l w1 ((hw.facts (factB (.slice a n c) l) (by first | exact List.mem_cons_self .. | exact List.mem_append_left _ (List.mem_cons_self ..) | exact List.mem_append_left _ (List.mem_append_left _ (List.mem_cons_self ..)))).1) hby hcn (by omega)).mono ?_)
              rw [hG]
              rintro e w' ⟨hfr, rfl⟩
              refine ⟨_, _, _, rfl, hw.fr0 hfr, rfl, ?_⟩
              refine L_v rfl rfl rfl (V_move rfl rfl) ?_
              refine L_v rfl rfl rfl (V_extract rfl rfl rfl) ?_
              refine L_v rfl rfl rfl (V_extract rfl rfl rfl) ?_
              refine L_alloc rfl rfl rfl rfl z49rl (fun b0 => ?_)
              refine L_storeW 0 rfl rfl rfl rfl rfl rfl (szd sz49rl (by kernel_rfl)) (all_one (by kernel_rfl)) (by kernel_rfl) ?_
              refine L_v rfl rfl rfl (V_assign rfl rfl) ?_
              refine L_nil ?_
              change J _ _ _ _
              refine J_seq ?_
              refine J_region ?_
              refine L_v rfl rfl rfl (V_move rfl rfl) ?_
              refine L_call rfl rfl rfl rfl tx16rl (fun w1 hw => (rgetsigned_w a n c l w1 ((hw.facts (factB (.slice a n c) l) (by first | exact List.mem_cons_self .. | exact List.mem_append_left _ (List.mem_cons_self ..) | exact List.mem_append_left _ (List.mem_append_left _ (List.mem_cons_self ..)))).1) hby hcn (by omega)).mono ?_)
              rw [hG]
              rintro e w' ⟨hfr, rfl⟩
              refine ⟨_, _, _, rfl, hw.fr0 hfr, rfl, ?_⟩
              refine L_v rfl rfl rfl (V_move rfl rfl) ?_
              refine L_v rfl rfl rfl (V_extract rfl rfl rfl) ?_
              refine L_v rfl rfl rfl (V_extract rfl rfl rfl) ?_
              refine L_alloc rfl rfl rfl rfl z49rl (fun b1 => ?_)
              refine L_storeW 1 rfl rfl rfl rfl rfl rfl (szd sz49rl (by kernel_rfl)) (all_one (by kernel_rfl)) (by kernel_rfl) ?_
              refine L_v rfl rfl rfl (V_assign rfl rfl) ?_
              refine L_nil ?_
              change J _ _ _ _
              refine J_seq ?_
              refine J_region ?_
              refine L_v rfl rfl rfl (V_loadW 0 rfl rfl rfl Tryz.underlying49 rfl (szd sz49rl (by kernel_rfl))) ?_
              refine L_call rfl rfl rfl rfl tx17rl (fun w1 hw => (putsigned_w ((0, dz, dz), dz) w1 (by decide)).mono ?_)
              rw [zS0]
              rintro e w' ⟨hfr, a5, n5, c5, rfl, hs5, hc5, hn5⟩
              have hnw5 : ∀ k, (factB (.slice a5 n5 c5) (List.replicate 97 0)).fp k → w.heap.size ≤ k := fun j hk => Nat.le_trans hw.fr.size (hn5 j hk)
              refine ⟨_, _, _, rfl, OkW.fr0F hw (fs2 := [factB (.slice a5 n5 c5) (List.replicate 97 0)]) hfr (fun f hf => by obtain rfl := List.mem_singleton.1 hf; exact ⟨hs5, fun j hk => ⟨hn5 j hk, factB_lt hs5 j hk⟩⟩), rfl, ?_⟩
              refine L_v rfl rfl rfl (V_move rfl rfl) ?_
              refine L_v rfl rfl rfl (V_extract rfl rfl rfl) ?_
              refine L_v rfl rfl rfl (V_extract rfl rfl rfl) ?_
              refine L_v rfl rfl rfl (V_assign rfl rfl) ?_
              refine L_v rfl rfl rfl (V_assign rfl rfl) ?_
              refine L_nil ?_
              change J _ _ _ _
              refine J_seq ?_
              refine J_seq ?_
              refine J_region ?_
              refine L_v rfl rfl rfl (V_move rfl rfl) ?_
              refine L_v rfl rfl rfl (V_move rfl rfl) ?_
              refine L_v rfl rfl rfl (V_neq rfl rfl rfl (by first | exact decide_eq_false (fun h => h rfl) | exact decide_eq_true (by omega) | exact decide_eq_false (by omega) | rfl)) ?_
              refine L_v rfl rfl rfl (V_move rfl rfl) ?_
              refine L_wv rfl rfl rfl rfl rfl rfl (V_loadW 0 rfl rfl rfl Tryz.underlying49 rfl (szd sz49rl (by kernel_rfl))) ?_
              refine L_wv rfl rfl rfl rfl rfl rfl (V_loadW 1 rfl rfl rfl Tryz.underlying49 rfl (szd sz49rl (by kernel_rfl))) ?_
              refine L_wv rfl rfl rfl rfl rfl rfl (V_neAgg rfl rfl rfl egS (fun w => eqSg _ w) rfl) ?_
              first | refine L_v rfl rfl rfl (V_pickT rfl rfl rfl) ?_ | refine L_v rfl rfl rfl (V_pickF rfl rfl rfl) ?_
              refine L_v rfl rfl rfl (V_move rfl rfl) ?_
              refine L_wv rfl rfl rfl rfl rfl rfl (V_move rfl rfl) ?_
              refine L_wv rfl rfl rfl rfl rfl rfl (V_eql rfl rfl rfl (by first | exact decide_eq_false (fun h => h rfl) | exact decide_eq_true (by omega) | exact decide_eq_false (by omega) | rfl)) ?_
              refine L_wv rfl rfl rfl rfl rfl rfl (V_move rfl rfl) ?_
              refine L_skip rfl rfl rfl rfl rfl rfl rfl ?_
              refine L_skip rfl rfl rfl rfl rfl rfl rfl ?_
              refine L_skip rfl rfl rfl rfl rfl rfl rfl ?_
              refine L_skip rfl rfl rfl rfl rfl rfl rfl ?_
              refine L_skip rfl rfl rfl rfl rfl rfl rfl ?_
              first | refine L_wv rfl rfl rfl rfl rfl rfl (V_pickT rfl rfl rfl) ?_ | refine L_wv rfl rfl rfl rfl rfl rfl (V_pickF rfl rfl rfl) ?_
              first | refine L_v rfl rfl rfl (V_pickT rfl rfl rfl) ?_ | refine L_v rfl rfl rfl (V_pickF rfl rfl rfl) ?_
              refine L_nil ?_
              change J _ _ _ _
              refine J_false rfl ?_
              refine J_skip ?_
              change J _ _ _ _
              exact J_le (st' := { env := [(0, .slice a n c)], mem := [], facts := [factB (.slice a n c) l] }) ⟨⟨rfl, trivial⟩, List.nil_sublist _, (by intro f hf; obtain rfl := List.mem_singleton.1 hf; first | exact List.mem_cons_self .. | exact List.mem_append_left _ (List.mem_cons_self ..) | exact List.mem_append_left _ (List.mem_append_left _ (List.mem_cons_self ..)) | exact List.mem_append_left _ (List.mem_append_left _ (List.mem_append_left _ (List.mem_cons_self ..)))), rfl⟩ hB23
            ·
              have hB9 := getW_back sgC hby hG
              have hge := encTs_ge hB9
              skip
              refine J_seq ?_
              refine J_region ?_
              refine L_v rfl rfl rfl (V_move rfl rfl) ?_
              refine L_call rfl rfl rfl rfl tx15rl (fun w1 hw => (getsigned_w a n c l w1 ((hw.facts (factB (.slice a n c) l) (by first | exact List.mem_cons_self .. | exact List.mem_append_left _ (List.mem_cons_self ..) | exact List.mem_append_left _ (List.mem_append_left _ (List.mem_cons_self ..)))).1) hby hcn (by omega)).mono ?_)
              rw [hG]
              rintro e w' ⟨hfr, v, fs, rfl, ⟨rfl, rfl⟩, hf⟩
              refine ⟨_, _, _, rfl, hw.fr0 hfr, rfl, ?_⟩
              refine L_v rfl rfl rfl (V_move rfl rfl) ?_
              refine L_v rfl rfl rfl (V_extract rfl rfl rfl) ?_
              refine L_v rfl rfl rfl (V_extract rfl rfl rfl) ?_
              refine L_alloc rfl rfl rfl rfl z49rl (fun b0 => ?_)
              refine L_storeW 0 rfl rfl rfl rfl rfl rfl (szd sz49rl (by kernel_rfl)) (all_one (by kernel_rfl)) (by kernel_rfl) ?_
              refine L_v rfl rfl rfl (V_assign rfl rfl) ?_
              refine L_nil ?_
              change J _ _ _ _
              refine J_seq ?_
              refine J_region ?_
              refine L_v rfl rfl rfl (V_move rfl rfl) ?_
              refine L_call rfl rfl rfl rfl tx16rl (fun w1 hw => (rgetsigned_w a n c l w1 ((hw.facts (factB (.slice a n c) l) (by first | exact List.mem_cons_self .. | exact List.mem_append_left _ (List.mem_cons_self ..) | exact List.mem_append_left _ (List.mem_append_left _ (List.mem_cons_self ..)))).1) hby hcn (by omega)).mono ?_)
              rw [hG]
              rintro e w' ⟨hfr, v, fs, rfl, ⟨rfl, rfl⟩, hf⟩
              refine ⟨_, _, _, rfl, hw.fr0 hfr, rfl, ?_⟩
              refine L_v rfl rfl rfl (V_move rfl rfl) ?_
              refine L_v rfl rfl rfl (V_extract rfl rfl rfl) ?_
              refine L_v rfl rfl rfl (V_extract rfl rfl rfl) ?_
              refine L_alloc rfl rfl rfl rfl z49rl (fun b1 => ?_)
              refine L_storeW 1 rfl rfl rfl rfl rfl rfl (szd sz49rl (by kernel_rfl)) (all_one (by kernel_rfl)) (by kernel_rfl) ?_
              refine L_v rfl rfl rfl (V_assign rfl rfl) ?_
              refine L_nil ?_
              change J _ _ _ _
              refine J_seq ?_
              refine J_region ?_
              refine L_v rfl rfl rfl (V_loadW 0 rfl rfl rfl Tryz.underlying49 rfl (szd sz49rl (by kernel_rfl))) ?_
              refine L_call rfl rfl rfl rfl tx17rl (fun w1 hw => (putsigned_w x w1 (by decide)).mono ?_)
              rw [hB9]
              rintro e w' ⟨hfr, a5, n5, c5, rfl, hs5, hc5, hn5⟩
              have hnw5 : ∀ k, (factB (.slice a5 n5 c5) l).fp k → w.heap.size ≤ k := fun j hk => Nat.le_trans hw.fr.size (hn5 j hk)
              refine ⟨_, _, _, rfl, OkW.fr0F hw (fs2 := [factB (.slice a5 n5 c5) l]) hfr (fun f hf => by obtain rfl := List.mem_singleton.1 hf; exact ⟨hs5, fun j hk => ⟨hn5 j hk, factB_lt hs5 j hk⟩⟩), rfl, ?_⟩
              refine L_v rfl rfl rfl (V_move rfl rfl) ?_
              refine L_v rfl rfl rfl (V_extract rfl rfl rfl) ?_
              refine L_v rfl rfl rfl (V_extract rfl rfl rfl) ?_
              refine L_v rfl rfl rfl (V_assign rfl rfl) ?_
              refine L_v rfl rfl rfl (V_assign rfl rfl) ?_
              refine L_nil ?_
              change J _ _ _ _
              refine J_seq ?_
              refine J_seq ?_
              refine J_region ?_
              refine L_v rfl rfl rfl (V_move rfl rfl) ?_
              refine L_v rfl rfl rfl (V_move rfl rfl) ?_
              refine L_v rfl rfl rfl (V_neq rfl rfl rfl (by first | exact decide_eq_false (fun h => h rfl) | exact decide_eq_true (by omega) | exact decide_eq_false (by omega) | rfl)) ?_
              refine L_v rfl rfl rfl (V_move rfl rfl) ?_
              refine L_wv rfl rfl rfl rfl rfl rfl (V_loadW 0 rfl rfl rfl Tryz.underlying49 rfl (szd sz49rl (by kernel_rfl))) ?_
              refine L_wv rfl rfl rfl rfl rfl rfl (V_loadW 1 rfl rfl rfl Tryz.underlying49 rfl (szd sz49rl (by kernel_rfl))) ?_
              refine L_wv rfl rfl rfl rfl rfl rfl (V_neAgg rfl rfl rfl egS (fun w => eqSg _ w) rfl) ?_
              first | refine L_v rfl rfl rfl (V_pickT rfl rfl rfl) ?_ | refine L_v rfl rfl rfl (V_pickF rfl rfl rfl) ?_
              refine L_v rfl rfl rfl (V_move rfl rfl) ?_
              refine L_wv rfl rfl rfl rfl rfl rfl (V_move rfl rfl) ?_
              refine L_wv rfl rfl rfl rfl rfl rfl (V_eql rfl rfl rfl (by first | exact decide_eq_false (fun h => h rfl) | exact decide_eq_true (by omega) | exact decide_eq_false (by omega) | rfl)) ?_
              refine L_wv rfl rfl rfl rfl rfl rfl (V_move rfl rfl) ?_
              refine L_wv rfl rfl rfl rfl rfl rfl (V_move rfl rfl) ?_
              refine L_wv rfl rfl rfl rfl rfl rfl (V_str rfl rfl Tryz.underlying22 Tryz.underlying5 Tryz.underlying9 (fun w hw => (hw.facts _ (List.mem_append_right _ (List.mem_singleton.2 rfl))).1)) ?_
              refine L_wv rfl rfl rfl rfl rfl rfl (V_move rfl rfl) ?_
              refine L_wv rfl rfl rfl rfl rfl rfl (V_str rfl rfl Tryz.underlying22 Tryz.underlying5 Tryz.underlying9 (fun w hw => (hw.facts (factB (.slice a n c) l) (by first | exact List.mem_cons_self .. | exact List.mem_append_left _ (List.mem_cons_self ..) | exact List.mem_append_left _ (List.mem_append_left _ (List.mem_cons_self ..)) | exact List.mem_append_left _ (List.mem_append_left _ (List.mem_append_left _ (List.mem_cons_self ..))))).1)) ?_
              refine L_wv rfl rfl rfl rfl rfl rfl (V_neS rfl rfl rfl (decide_eq_false (fun h => h rfl))) ?_
              first | refine L_wv rfl rfl rfl rfl rfl rfl (V_pickT rfl rfl rfl) ?_ | refine L_wv rfl rfl rfl rfl rfl rfl (V_pickF rfl rfl rfl) ?_
              first | refine L_v rfl rfl rfl (V_pickT rfl rfl rfl) ?_ | refine L_v rfl rfl rfl (V_pickF rfl rfl rfl) ?_
              refine L_nil ?_
              change J _ _ _ _
              refine J_false rfl ?_
              refine J_skip ?_
              change J _ _ _ _
              exact J_le (st' := { env := [(0, .slice a n c)], mem := [], facts := [factB (.slice a n c) l] }) ⟨⟨rfl, trivial⟩, List.nil_sublist _, (by intro f hf; obtain rfl := List.mem_singleton.1 hf; first | exact List.mem_cons_self .. | exact List.mem_append_left _ (List.mem_cons_self ..) | exact List.mem_append_left _ (List.mem_append_left _ (List.mem_cons_self ..)) | exact List.mem_append_left _ (List.mem_append_left _ (List.mem_append_left _ (List.mem_cons_self ..)))), rfl⟩ hB23
          case hrest =>
            apply J_joinX ({ env := [(0, .slice a n c)], mem := [], facts := [factB (.slice a n c) l] })
            case hmain =>
              intro hB28
              rcases hG : getW drC l with _ | x
              ·
                refine J_seq ?_
                refine J_region ?_
                refine L_v rfl rfl rfl (V_move rfl rfl) ?_
                refine L_call rfl rfl rfl rfl tx18rl (fun w1 hw => (getdirectory_w a n c l w1 ((hw.facts (factB (.slice a n c) l) (by first | exact List.mem_cons_self .. | exact List.mem_append_left _ (List.mem_cons_self ..) | exact List.mem_append_left _ (List.mem_append_left _ (List.mem_cons_self ..)))).1) hby hcn (by omega)).mono ?_)
                rw [hG]
                rintro e w' ⟨hfr, rfl⟩
                refine ⟨_, _, _, rfl, hw.fr0 hfr, rfl, ?_⟩
                refine L_v rfl rfl rfl (V_move rfl rfl) ?_
                refine L_v rfl rfl rfl (V_extract rfl rfl rfl) ?_
                refine L_v rfl rfl rfl (V_extract rfl rfl rfl) ?_
                refine L_alloc rfl rfl rfl rfl z63rl (fun b0 => ?_)
                refine L_storeW 0 rfl rfl rfl rfl rfl rfl (szd sz63rl (by kernel_rfl)) (all_one (by kernel_rfl)) (by kernel_rfl) ?_
                refine L_v rfl rfl rfl (V_assign rfl rfl) ?_
                refine L_nil ?_
                change J _ _ _ _
                refine J_seq ?_
                refine J_region ?_
                refine L_v rfl rfl rfl (V_move rfl rfl) ?_
                refine L_call rfl rfl rfl rfl tx19rl (fun w1 hw => (rgetdirectory_w a n c l w1 ((hw.facts (factB (.slice a n c) l) (by first | exact List.mem_cons_self .. | exact List.mem_append_left _ (List.mem_cons_self ..) | exact List.mem_append_left _ (List.mem_append_left _ (List.mem_cons_self ..)))).1) hby hcn (by omega)).mono ?_)
                rw [hG]
                rintro e w' ⟨hfr, rfl⟩
                refine ⟨_, _, _, rfl, hw.fr0 hfr, rfl, ?_⟩
                refine L_v rfl rfl rfl (V_move rfl rfl) ?_
                refine L_v rfl rfl rfl (V_extract rfl rfl rfl) ?_
                refine L_v rfl rfl rfl (V_extract rfl rfl rfl) ?_
                refine L_alloc rfl rfl rfl rfl z63rl (fun b1 => ?_)
                refine L_storeW 1 rfl rfl rfl rfl rfl rfl (szd sz63rl (by kernel_rfl)) (all_one (by kernel_rfl)) (by kernel_rfl) ?_
                refine L_v rfl rfl rfl (V_assign rfl rfl) ?_
                refine L_nil ?_
                change J _ _ _ _
                refine J_seq ?_
                refine J_region ?_
                refine L_v rfl rfl rfl (V_loadW 0 rfl rfl rfl Tryz.underlying63 rfl (szd sz63rl (by kernel_rfl))) ?_
                refine L_call rfl rfl rfl rfl tx20rl (fun w1 hw => (putdirectory_w none none none 0 0 0 0 [] [] [] w1 fw0 (by decide)).mono ?_)
                rw [show encTs (drC.tk (0, ([] : List (Us × Value)).map Prod.fst, [], [])) = .ok [0, 0, 0, 0] from zD0]
                rintro e w' ⟨hfr, a5, n5, c5, rfl, hs5, hc5, hn5⟩
                have hnw5 : ∀ k, (factB (.slice a5 n5 c5) [0, 0, 0, 0]).fp k → w.heap.size ≤ k := fun j hk => Nat.le_trans hw.fr.size (hn5 j hk)
                refine ⟨_, _, _, rfl, OkW.fr0F hw (fs2 := [factB (.slice a5 n5 c5) [0, 0, 0, 0]]) hfr (fun f hf => by obtain rfl := List.mem_singleton.1 hf; exact ⟨hs5, fun j hk => ⟨hn5 j hk, factB_lt hs5 j hk⟩⟩), rfl, ?_⟩
                refine L_v rfl rfl rfl (V_move rfl rfl) ?_
                refine L_v rfl rfl rfl (V_extract rfl rfl rfl) ?_
                refine L_v rfl rfl rfl (V_extract rfl rfl rfl) ?_
                refine L_v rfl rfl rfl (V_assign rfl rfl) ?_
                refine L_v rfl rfl rfl (V_assign rfl rfl) ?_
                refine L_nil ?_
                change J _ _ _ _
                refine J_seq ?_
                refine J_seq ?_
                refine J_region ?_
                refine L_v rfl rfl rfl (V_move rfl rfl) ?_
                refine L_v rfl rfl rfl (V_move rfl rfl) ?_
                refine L_v rfl rfl rfl (V_neq rfl rfl rfl (by first | exact decide_eq_false (fun h => h rfl) | exact decide_eq_true (by omega) | exact decide_eq_false (by omega) | rfl)) ?_
                refine L_v rfl rfl rfl (V_move rfl rfl) ?_
                refine L_wv rfl rfl rfl rfl rfl rfl (V_loadW 0 rfl rfl rfl Tryz.underlying63 rfl (szd sz63rl (by kernel_rfl))) ?_
                refine L_wv rfl rfl rfl rfl rfl rfl (V_loadW 1 rfl rfl rfl Tryz.underlying63 rfl (szd sz63rl (by kernel_rfl))) ?_
                refine L_wcallV rfl rfl rfl rfl rfl rfl rfl rfl rfl tx21rl (fun w1 hw => samedr_t none none none none none none 0 0 0 0 0 0 0 [] [] [] [] w1 rfl fw0 fw0 (by simp) (by decide) (by decide) (by decide)) ?_
                refine L_wv rfl rfl rfl rfl rfl rfl (V_not rfl rfl rfl) ?_
                first | refine L_v rfl rfl rfl (V_pickT rfl rfl rfl) ?_ | refine L_v rfl rfl rfl (V_pickF rfl rfl rfl) ?_
                refine L_v rfl rfl rfl (V_move rfl rfl) ?_
                refine L_wv rfl rfl rfl rfl rfl rfl (V_move rfl rfl) ?_
                refine L_wv rfl rfl rfl rfl rfl rfl (V_eql rfl rfl rfl (by first | exact decide_eq_false (fun h => h rfl) | exact decide_eq_true (by omega) | exact decide_eq_false (by omega) | rfl)) ?_
                refine L_wv rfl rfl rfl rfl rfl rfl (V_move rfl rfl) ?_
                refine L_skip rfl rfl rfl rfl rfl rfl rfl ?_
                refine L_skip rfl rfl rfl rfl rfl rfl rfl ?_
                refine L_skip rfl rfl rfl rfl rfl rfl rfl ?_
                refine L_skip rfl rfl rfl rfl rfl rfl rfl ?_
                refine L_skip rfl rfl rfl rfl rfl rfl rfl ?_
                first | refine L_wv rfl rfl rfl rfl rfl rfl (V_pickT rfl rfl rfl) ?_ | refine L_wv rfl rfl rfl rfl rfl rfl (V_pickF rfl rfl rfl) ?_
                first | refine L_v rfl rfl rfl (V_pickT rfl rfl rfl) ?_ | refine L_v rfl rfl rfl (V_pickF rfl rfl rfl) ?_
                refine L_nil ?_
                change J _ _ _ _
                refine J_false rfl ?_
                refine J_skip ?_
                change J _ _ _ _
                exact J_le (st' := { env := [(0, .slice a n c)], mem := [], facts := [factB (.slice a n c) l] }) ⟨⟨rfl, trivial⟩, List.nil_sublist _, (by intro f hf; obtain rfl := List.mem_singleton.1 hf; first | exact List.mem_cons_self .. | exact List.mem_append_left _ (List.mem_cons_self ..) | exact List.mem_append_left _ (List.mem_append_left _ (List.mem_cons_self ..)) | exact List.mem_append_left _ (List.mem_append_left _ (List.mem_append_left _ (List.mem_cons_self ..)))), rfl⟩ hB28
              ·
                have hB8 := getW_back drC hby hG
                have hge := encTs_ge hB8
                refine J_seq ?_
                refine J_region ?_
                refine L_v rfl rfl rfl (V_move rfl rfl) ?_
                refine L_call rfl rfl rfl rfl tx18rl (fun w1 hw => (getdirectory_w a n c l w1 ((hw.facts (factB (.slice a n c) l) (by first | exact List.mem_cons_self .. | exact List.mem_append_left _ (List.mem_cons_self ..) | exact List.mem_append_left _ (List.mem_append_left _ (List.mem_cons_self ..)))).1) hby hcn (by omega)).mono ?_)
                rw [hG]
                rintro e w' ⟨hfr, v, fs, rfl, hV, hf8⟩
                have hnw8 : ∀ f ∈ fs, ∀ k, f.fp k → w.heap.size ≤ k := fun f hf j hk => Nat.le_trans hw.fr.size ((hf8 f hf).2 j hk).1
                obtain ⟨us, ya1, yc1, ya2, yc2, ya3, yc3, hus, rfl, rfl⟩ := hV
                have hB9 : encTs (drC.tk (x.1, us.map Prod.fst, x.2.2.1, x.2.2.2)) = .ok l := by rw [hus]; exact hB8
                have hT := dr_len2 x.1 us x.2.2.1 x.2.2.2
                have hge9 := encTs_ge hB9
                have hul := us_le (us := us) (B := 262144) (by omega)
                refine ⟨_, _, _, rfl, OkW.fr0F hw hfr hf8, rfl, ?_⟩
                refine L_v rfl rfl rfl (V_move rfl rfl) ?_
                refine L_v rfl rfl rfl (V_extract rfl rfl rfl) ?_
                refine L_v rfl rfl rfl (V_extract rfl rfl rfl) ?_
                refine L_alloc rfl rfl rfl rfl z63rl (fun b0 => ?_)
                refine L_storeW 0 rfl rfl rfl rfl rfl rfl (szd sz63rl (by kernel_rfl)) (all_one (by kernel_rfl)) (by kernel_rfl) ?_
                refine L_v rfl rfl rfl (V_assign rfl rfl) ?_
                refine L_nil ?_
                change J _ _ _ _
                refine J_seq ?_
                refine J_region ?_
                refine L_v rfl rfl rfl (V_move rfl rfl) ?_
                refine L_call rfl rfl rfl rfl tx19rl (fun w1 hw => (rgetdirectory_w a n c l w1 ((hw.facts (factB (.slice a n c) l) (by first | exact List.mem_cons_self .. | exact List.mem_append_left _ (List.mem_cons_self ..) | exact List.mem_append_left _ (List.mem_append_left _ (List.mem_cons_self ..)))).1) hby hcn (by omega)).mono ?_)
                rw [hG]
                rintro e w' ⟨hfr, v, fs, rfl, hV, hf9⟩
                have hnw9 : ∀ f ∈ fs, ∀ k, f.fp k → w.heap.size ≤ k := fun f hf j hk => Nat.le_trans hw.fr.size ((hf9 f hf).2 j hk).1
                obtain ⟨us2, za1, zc1, za2, zc2, za3, zc3, hus2, rfl, rfl⟩ := hV
                replace hus2 : us2.map Prod.fst = us.map Prod.fst := hus2.trans hus.symm
                refine ⟨_, _, _, rfl, OkW.fr0F hw hfr hf9, rfl, ?_⟩
                refine L_v rfl rfl rfl (V_move rfl rfl) ?_
                refine L_v rfl rfl rfl (V_extract rfl rfl rfl) ?_
                refine L_v rfl rfl rfl (V_extract rfl rfl rfl) ?_
                refine L_alloc rfl rfl rfl rfl z63rl (fun b1 => ?_)
                refine L_storeW 1 rfl rfl rfl rfl rfl rfl (szd sz63rl (by kernel_rfl)) (all_one (by kernel_rfl)) (by kernel_rfl) ?_
                refine L_v rfl rfl rfl (V_assign rfl rfl) ?_
                refine L_nil ?_
                change J _ _ _ _
                refine J_seq ?_
                refine J_region ?_
                refine L_v rfl rfl rfl (V_loadW 0 rfl rfl rfl Tryz.underlying63 rfl (szd sz63rl (by kernel_rfl))) ?_
                refine L_call rfl rfl rfl rfl tx20rl (fun w1 hw => (putdirectory_w ya1 ya2 ya3 yc1 yc2 yc3 x.1 us x.2.2.1 x.2.2.2 w1 (OkW.fw hw (fun f hf => List.mem_append_left _ (List.mem_append_right _ (dfx_mem2 f hf)))) (by omega)).mono ?_)
                rw [hB9]
                rintro e w' ⟨hfr, a5, n5, c5, rfl, hs5, hc5, hn5⟩
                have hnw5 : ∀ k, (factB (.slice a5 n5 c5) l).fp k → w.heap.size ≤ k := fun j hk => Nat.le_trans hw.fr.size (hn5 j hk)
                refine ⟨_, _, _, rfl, OkW.fr0F hw (fs2 := [factB (.slice a5 n5 c5) l]) hfr (fun f hf => by obtain rfl := List.mem_singleton.1 hf; exact ⟨hs5, fun j hk => ⟨hn5 j hk, factB_lt hs5 j hk⟩⟩), rfl, ?_⟩
                refine L_v rfl rfl rfl (V_move rfl rfl) ?_
                refine L_v rfl rfl rfl (V_extract rfl rfl rfl) ?_
                refine L_v rfl rfl rfl (V_extract rfl rfl rfl) ?_
                refine L_v rfl rfl rfl (V_assign rfl rfl) ?_
                refine L_v rfl rfl rfl (V_assign rfl rfl) ?_
                refine L_nil ?_
                change J _ _ _ _
                refine J_seq ?_
                refine J_seq ?_
                refine J_region ?_
                refine L_v rfl rfl rfl (V_move rfl rfl) ?_
                refine L_v rfl rfl rfl (V_move rfl rfl) ?_
                refine L_v rfl rfl rfl (V_neq rfl rfl rfl (by first | exact decide_eq_false (fun h => h rfl) | exact decide_eq_true (by omega) | exact decide_eq_false (by omega) | rfl)) ?_
                refine L_v rfl rfl rfl (V_move rfl rfl) ?_
                refine L_wv rfl rfl rfl rfl rfl rfl (V_loadW 0 rfl rfl rfl Tryz.underlying63 rfl (szd sz63rl (by kernel_rfl))) ?_
                refine L_wv rfl rfl rfl rfl rfl rfl (V_loadW 1 rfl rfl rfl Tryz.underlying63 rfl (szd sz63rl (by kernel_rfl))) ?_
                refine L_wcallV rfl rfl rfl rfl rfl rfl rfl rfl rfl tx21rl (fun w1 hw => samedr_t ya1 ya2 ya3 za1 za2 za3 yc1 yc2 yc3 zc1 zc2 zc3 x.1 us us2 x.2.2.1 x.2.2.2 w1 hus2 (OkW.fw hw (fun f hf => List.mem_append_left _ (List.mem_append_left _ (List.mem_append_right _ (dfx_mem2 f hf))))) (OkW.fw hw (fun f hf => List.mem_append_left _ (List.mem_append_right _ (dfx_mem2 f hf)))) (fun p hp => Nat.le_trans (hul.2 p hp) (by decide)) (by omega) (by omega) (by omega)) ?_
                refine L_wv rfl rfl rfl rfl rfl rfl (V_not rfl rfl rfl) ?_
                first | refine L_v rfl rfl rfl (V_pickT rfl rfl rfl) ?_ | refine L_v rfl rfl rfl (V_pickF rfl rfl rfl) ?_
                refine L_v rfl rfl rfl (V_move rfl rfl) ?_
                refine L_wv rfl rfl rfl rfl rfl rfl (V_move rfl rfl) ?_
                refine L_wv rfl rfl rfl rfl rfl rfl (V_eql rfl rfl rfl (by first | exact decide_eq_false (fun h => h rfl) | exact decide_eq_true (by omega) | exact decide_eq_false (by omega) | rfl)) ?_
                refine L_wv rfl rfl rfl rfl rfl rfl (V_move rfl rfl) ?_
                refine L_wv rfl rfl rfl rfl rfl rfl (V_move rfl rfl) ?_
                refine L_wv rfl rfl rfl rfl rfl rfl (V_str rfl rfl Tryz.underlying22 Tryz.underlying5 Tryz.underlying9 (fun w hw => (hw.facts _ (List.mem_append_right _ (List.mem_singleton.2 rfl))).1)) ?_
                refine L_wv rfl rfl rfl rfl rfl rfl (V_move rfl rfl) ?_
                refine L_wv rfl rfl rfl rfl rfl rfl (V_str rfl rfl Tryz.underlying22 Tryz.underlying5 Tryz.underlying9 (fun w hw => (hw.facts (factB (.slice a n c) l) (by first | exact List.mem_cons_self .. | exact List.mem_append_left _ (List.mem_cons_self ..) | exact List.mem_append_left _ (List.mem_append_left _ (List.mem_cons_self ..)) | exact List.mem_append_left _ (List.mem_append_left _ (List.mem_append_left _ (List.mem_cons_self ..))))).1)) ?_
                refine L_wv rfl rfl rfl rfl rfl rfl (V_neS rfl rfl rfl (decide_eq_false (fun h => h rfl))) ?_
                first | refine L_wv rfl rfl rfl rfl rfl rfl (V_pickT rfl rfl rfl) ?_ | refine L_wv rfl rfl rfl rfl rfl rfl (V_pickF rfl rfl rfl) ?_
                first | refine L_v rfl rfl rfl (V_pickT rfl rfl rfl) ?_ | refine L_v rfl rfl rfl (V_pickF rfl rfl rfl) ?_
                refine L_nil ?_
                change J _ _ _ _
                refine J_false rfl ?_
                refine J_skip ?_
                change J _ _ _ _
                exact J_le (st' := { env := [(0, .slice a n c)], mem := [], facts := [factB (.slice a n c) l] }) ⟨⟨rfl, trivial⟩, List.nil_sublist _, (by intro f hf; obtain rfl := List.mem_singleton.1 hf; first | exact List.mem_cons_self .. | exact List.mem_append_left _ (List.mem_cons_self ..) | exact List.mem_append_left _ (List.mem_append_left _ (List.mem_cons_self ..)) | exact List.mem_append_left _ (List.mem_append_left _ (List.mem_append_left _ (List.mem_cons_self ..)))), rfl⟩ hB28
            case hrest =>
              refine J_seq ?_
              refine J_region ?_
              refine L_callV rfl rfl rfl rfl rfl rfl tx22rl (fun w1 hw => commands_t w1) ?_
              refine L_v rfl rfl rfl (V_move rfl rfl) ?_
              refine L_wcallV rfl rfl rfl rfl rfl rfl rfl rfl rfl tx23rl (fun w1 hw => entries_t w1) ?_
              first | refine L_v rfl rfl rfl (V_pickT rfl rfl rfl) ?_ | refine L_v rfl rfl rfl (V_pickF rfl rfl rfl) ?_
              refine L_v rfl rfl rfl (V_move rfl rfl) ?_
              refine L_wcallV rfl rfl rfl rfl rfl rfl rfl rfl rfl tx24rl (fun w1 hw => records_t w1) ?_
              first | refine L_v rfl rfl rfl (V_pickT rfl rfl rfl) ?_ | refine L_v rfl rfl rfl (V_pickF rfl rfl rfl) ?_
              refine L_v rfl rfl rfl (V_move rfl rfl) ?_
              refine L_wcallV rfl rfl rfl rfl rfl rfl rfl rfl rfl tx25rl (fun w1 hw => signed_t w1) ?_
              first | refine L_v rfl rfl rfl (V_pickT rfl rfl rfl) ?_ | refine L_v rfl rfl rfl (V_pickF rfl rfl rfl) ?_
              refine L_v rfl rfl rfl (V_move rfl rfl) ?_
              refine L_wcallV rfl rfl rfl rfl rfl rfl rfl rfl rfl tx26rl (fun w1 hw => directories_t w1) ?_
              first | refine L_v rfl rfl rfl (V_pickT rfl rfl rfl) ?_ | refine L_v rfl rfl rfl (V_pickF rfl rfl rfl) ?_
              refine L_v rfl rfl rfl (V_assign rfl rfl) ?_
              refine L_nil ?_
              change J _ _ _ _
              refine J_ret ?_
              change Kret _ _ _ Exit.ret _
              refine ret1 rfl rfl (RV_t rfl) ?_
              exact fun w' h => ⟨rfl, h.fr⟩

theorem WireReads_w (v : Value) (l : List Int) (w : World) (hu : SlB w v l) (hby : Byt l) (hq : ∀ a n c, v = .slice a n c → n ≤ c) :
    Calls Tryz.prog 3 #[v] w fun e w' => e = .returned (.bool true) ∧ Fr [] w w' := by
  obtain ⟨a, n, c, rfl⟩ : ∃ a n c, v = .slice a n c := by
    rcases hu with ⟨_, a, c, e⟩ | ⟨b, off, c, e, _⟩
    · exact ⟨_, _, _, e⟩
    · exact ⟨_, _, _, e⟩
  exact WireReads0_w a n c l w hu hby (hq _ _ _ rfl)
end Go.Proofs.YtfgcfjojpakpjaaGreat
