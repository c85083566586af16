/- What the laws on chains share. -/
import Derived.Test.YtbckeoidnpfbnaaDoorChain
import Derived.Great.BuildSlice
set_option linter.unusedVariables false
set_option linter.unusedSimpArgs false
set_option maxRecDepth 100000
namespace Go.Proofs.YtbckeoidnpfbnaaDoor
open Go.Sx
theorem zi36 : (Tryd.prog.info? 36).map (fun i => (i.zero, i.size)) = some (some (.agg (sgL 0 zd zd zd).toArray), 97) := by kernel_rfl
theorem zi36' : ∃ ie, Tryd.prog.info? 36 = some ie ∧ ie.zero = some (.agg (sgL 0 zd zd zd).toArray) ∧ ie.size = 97 := by
  have h := zi36
  cases hq : Tryd.prog.info? 36 with
  | none => rw [hq] at h; cases h
  | some ie =>
    rw [hq] at h
    simp only [Option.map_some, Option.some.injEq, Prod.mk.injEq] at h
    exact ⟨ie, rfl, h.1, h.2⟩
theorem rng1 : ((Array.range (1 * 97)).map ((Value.agg (sgL 0 zd zd zd).toArray).cells[· % (Value.agg (sgL 0 zd zd zd).toArray).cells.size]!)) = (sgL 0 zd zd zd).toArray := by kernel_rfl
theorem rng2 : ((Array.range (2 * 97)).map ((Value.agg (sgL 0 zd zd zd).toArray).cells[· % (Value.agg (sgL 0 zd zd zd).toArray).cells.size]!)) = (sgL 0 zd zd zd ++ sgL 0 zd zd zd).toArray := by kernel_rfl
theorem sz0 : (sgL 0 zd zd zd).length = 97 := sgL_len zd_length zd_length zd_length
theorem bsS1 (x : Sg) (w : World) : (Instr.buildSlice 44 1 [(0, .agg (sgc x).toArray)].toArray).run Tryd.prog w = .ok (.slice (some ⟨w.heap.size, 0, none⟩) 1 1) (w.alloc (row 36 (sgc x))) := by
  obtain ⟨ie, h1, h2, h3⟩ := zi36'
  refine run_buildSlice w 44 36 1 _ _ ie _ Tryd.underlying44 h1 h2 (by rw [h3]; decide) (by rw [h3]; decide) ?_
  rw [h3, rng1]
  show Instr.fill _ (sgL 0 zd zd zd).toArray [(0, .agg (sgc x).toArray)] = _
  rw [fill_set (vl := sgc x) (i := 0) (off := 0) (n := 97) rfl rfl (sgc_len x) (by rw [sz0]; decide)]
  have h4 : (sgL 0 zd zd zd).drop (0 + 97) = [] := List.drop_eq_nil_of_le (by rw [sz0]; decide)
  rw [h4, List.take_zero, List.nil_append, List.append_nil]
  rfl
theorem bsS2 (x y : Sg) (w : World) : (Instr.buildSlice 44 2 [(0, .agg (sgc x).toArray), (1, .agg (sgc y).toArray)].toArray).run Tryd.prog w = .ok (.slice (some ⟨w.heap.size, 0, none⟩) 2 2) (w.alloc (row 36 (sgc x ++ sgc y))) := by
  obtain ⟨ie, h1, h2, h3⟩ := zi36'
  refine run_buildSlice w 44 36 2 _ _ ie _ Tryd.underlying44 h1 h2 (by rw [h3]; decide) (by rw [h3]; decide) ?_
  rw [h3, rng2]
  show Instr.fill _ (sgL 0 zd zd zd ++ sgL 0 zd zd zd).toArray [(0, .agg (sgc x).toArray), (1, .agg (sgc y).toArray)] = _
  have hz : (sgL 0 zd zd zd ++ sgL 0 zd zd zd).length = 194 := by rw [List.length_append, sz0]
  rw [fill_set (vl := sgc x) (i := 0) (off := 0) (n := 97) rfl rfl (sgc_len x) (by rw [hz]; decide)]
  have h4 : (sgL 0 zd zd zd ++ sgL 0 zd zd zd).drop (0 + 97) = sgL 0 zd zd zd := List.drop_left' sz0
  rw [h4, List.take_zero, List.nil_append]
  have h5 : (sgc x ++ sgL 0 zd zd zd).length = 194 := by rw [List.length_append, sgc_len, sz0]
  rw [fill_set (vl := sgc y) (i := 1) (off := 97) (n := 97) rfl rfl (sgc_len y) (by rw [h5]; decide)]
  have h6 : (sgc x ++ sgL 0 zd zd zd).take 97 = sgc x := List.take_left' (sgc_len x)
  have h7 : (sgc x ++ sgL 0 zd zd zd).drop (97 + 97) = [] := List.drop_eq_nil_of_le (by rw [h5]; decide)
  rw [h6, h7, List.append_nil]
  rfl
theorem sz0' : Value.cells (.agg (sgL 0 zd zd zd).toArray) = (sgL 0 zd zd zd).toArray := rfl
theorem els : ElemOf Tryd.prog 36 97 104 (.agg (sgL 0 zd zd zd).toArray) := elem_of (by kernel_rfl) sz0
def sgX : Sg := ⟨1, zd, zd, sgn sk 1 zd zd, zd_length, zd_length, sgn_len _ _ _ _, zd_byt, zd_byt, sgn_byt _ _ _ _⟩
theorem chX : chkS sk sgX = 0 := sg1
theorem ch1 : chainP sk [sgX] = 0 := by
  unfold chainP
  rw [if_pos (show okK sk = true from rfl)]
  show chainN (codeAt sk [sgX]) (0 + 1) = 0
  rw [chainN_go rfl]
  exact code_0 (l := [sgX]) (k := 0) chX ⟨rfl, rfl⟩
theorem ch2 : chainP sk [sgX, sgX] = 82 := by
  unfold chainP
  rw [if_pos (show okK sk = true from rfl)]
  show chainN (codeAt sk [sgX, sgX]) (0 + 1 + 1) = 82
  have h0 : chainN (codeAt sk [sgX, sgX]) (0 + 1) = 0 := by
    rw [chainN_go rfl]
    exact code_0 (l := [sgX, sgX]) (k := 0) chX ⟨rfl, rfl⟩
  rw [chainN_go h0]
  exact code_82 (l := [sgX, sgX]) (k := 1) chX (fun h => absurd (show (2 : Int) = 1 from h.1) (by decide))
theorem ch3 : chainP ⟨#[]⟩ [] = 80 := rfl
theorem chain_b {s : ByteArray} {a : Option Addr} {n c : Nat} {l : List Sg} {w : World} (hl : l.length = n) (hu : SlC 97 w (.slice a n c) n (sgs l)) (hn : n ≤ 1048576) (hK : TabK KT 0 w) {x : Int} (h : chainP s l = x) : Calls Tryd.prog 20 #[.string s, .slice a n c] w fun e w' => e = .returned (.int .i64 x) ∧ Fr [] w w' := by
  subst h
  exact chain_w s a n c l w hl hu hn hK
theorem sl1 {a : Option Addr} {c : Nat} {w : World} (h : SlC 97 w (.slice a 1 c) 1 (sgc sgX)) : SlC 97 w (.slice a 1 c) 1 (sgs [sgX]) := by rw [sgs_one]; exact h
theorem sl2 {a : Option Addr} {c : Nat} {w : World} (h : SlC 97 w (.slice a 2 c) 2 (sgc sgX ++ sgc sgX)) : SlC 97 w (.slice a 2 c) 2 (sgs [sgX, sgX]) := by rw [sgs_two]; exact h
/-! ### Two chains -/
theorem chain_ok_of {s : ByteArray} {l : List Sg} (h : chainP s l = 0) : okK s = true ∧ chainN (codeAt s l) l.length = 0 := by
  unfold chainP at h
  by_cases h1 : okK s = true
  · rw [if_pos h1] at h; exact ⟨h1, h⟩
  · rw [if_neg h1] at h; exact absurd h (by decide)
theorem getD_take_s {l : List Sg} {m k : Nat} (h : k < m) : (l.take m).getD k s0 = l.getD k s0 := by
  rw [List.getD_eq_getElem?_getD, List.getD_eq_getElem?_getD, List.getElem?_take, if_pos h]
theorem chain_take {s : ByteArray} {l : List Sg} {m : Nat} (h : chainP s l = 0) (hm : m ≤ l.length) : chainP s (l.take m) = 0 := by
  obtain ⟨h1, h2⟩ := chain_ok_of h
  unfold chainP
  rw [if_pos h1, List.length_take, Nat.min_eq_left hm]
  rw [chainN_same (f' := codeAt s l) (fun k hk => ?_)]
  · exact chainN_le hm h2
  · have e1 : (l.take m).getD k s0 = l.getD k s0 := getD_take_s hk
    have e2 : prevAt (l.take m) k = prevAt l k := by
      cases k with
      | zero => rfl
      | succ k => show dgP _ = dgP _; rw [getD_take_s (by omega)]
    unfold codeAt
    rw [e1, e2]
def hdEq (x y : Sg) : Prop := x.e = y.e ∧ x.r = y.r ∧ x.p = y.p
theorem chain_each {s : ByteArray} {l : List Sg} (h : chainP s l = 0) {k : Nat} (hk : k < l.length) : chkS s (l.getD k s0) = 0 ∧ prevAt l k = (l.getD k s0).p := by
  have h1 := code_ok (chainN_at hk (chain_ok_of h).2)
  exact ⟨h1.1, h1.2.2⟩
theorem chain_dg {s s' : ByteArray} {l m : List Sg} (h : chainP s l = 0) (h' : chainP s' m = 0) {k : Nat} (hl : k + 1 < l.length) (hm : k + 1 < m.length) (he : hdEq (l.getD (k + 1) s0) (m.getD (k + 1) s0)) : dgP (l.getD k s0) = dgP (m.getD k s0) := by
  have h1 := (chain_each h hl).2
  have h2 := (chain_each h' hm).2
  rw [he.2.2, ← h2] at h1
  exact h1
theorem chain_okE {s : ByteArray} {l : List Sg} (h : chainP s l = 0) {k : Nat} (hk : k < l.length) : okE (l.getD k s0).e = true := (chk_zero (chain_each h hk).1).2
theorem sz36d : (Tryd.prog.info? 36).map (·.size) = some 97 := by kernel_rfl
theorem tx14d : Txt Tryd.prog 14 := txt_of Tryd.func14 rfl (by kernel_rfl)
theorem tx20d : Txt Tryd.prog 20 := txt_of Tryd.func20 rfl (by kernel_rfl)
theorem tx27d : Txt Tryd.prog 27 := txt_of Tryd.func27 rfl (by kernel_rfl)
theorem z36d : (Tryd.prog.info? 36).bind (·.zero) = some (.agg (sgL 0 zd zd zd).toArray) := by kernel_rfl

theorem chains_w (w : World) (hK : TabK KT 0 w)  :
    Calls Tryd.prog 21 #[] w fun e w' => e = .returned (.bool true) ∧ Fr [] w w' := by
  refine calls_of (args := []) ([]) ([]) ([]) Tryd.func21 rfl rfl (okW0 _ _ _ _) ?_
  refine J_seq ?_
  refine J_region ?_
  refine L_v rfl rfl rfl (V_assign rfl rfl) ?_
  refine L_nil ?_
  change J _ _ _ _
  refine J_seq ?_
  refine J_region ?_
  refine L_callV rfl rfl rfl rfl rfl rfl tx27d (fun w1 _ => first_w w1) ?_
  refine L_callV rfl rfl rfl rfl rfl rfl tx14d (fun w1 hw => sign_ok sk 1 zd zd w1 zd_length zd_length zd_byt zd_byt rfl rfl (TabK.later hw (by simp) hK)) ?_
  refine L_v rfl rfl rfl (V_move rfl rfl) ?_
  refine L_v rfl rfl rfl (V_extract rfl rfl rfl) ?_
  refine L_v rfl rfl rfl (V_extract rfl rfl rfl) ?_
  refine L_alloc rfl rfl rfl rfl z36d (fun b0 => ?_)
  refine L_storeW 0 rfl rfl rfl rfl rfl rfl (szd sz36d (by first | exact sgc_len _ | (rw [sgc_len]; exact sgL_len zd_length zd_length zd_length) | (rw [sgc_len, sgL_len zd_length zd_length zd_length]) | exact sgL_len (by first | assumption | exact shaP_len _ | exact sgn_len _ _ _ _ | exact macP_len _ _ | exact zd_length | exact Sg.hr _ | exact Sg.hp _ | exact Sg.hg _ | exact prevAt_len _ _ | rfl) (by first | assumption | exact shaP_len _ | exact sgn_len _ _ _ _ | exact macP_len _ _ | exact zd_length | exact Sg.hr _ | exact Sg.hp _ | exact Sg.hg _ | exact prevAt_len _ _ | rfl) (by first | assumption | exact shaP_len _ | exact sgn_len _ _ _ _ | exact macP_len _ _ | exact zd_length | exact Sg.hr _ | exact Sg.hp _ | exact Sg.hg _ | exact prevAt_len _ _ | rfl) | (rw [sgL_len (by first | assumption | exact shaP_len _ | exact sgn_len _ _ _ _ | exact macP_len _ _ | exact zd_length | exact Sg.hr _ | exact Sg.hp _ | exact Sg.hg _ | exact prevAt_len _ _ | rfl) (by first | assumption | exact shaP_len _ | exact sgn_len _ _ _ _ | exact macP_len _ _ | exact zd_length | exact Sg.hr _ | exact Sg.hp _ | exact Sg.hg _ | exact prevAt_len _ _ | rfl) (by first | assumption | exact shaP_len _ | exact sgn_len _ _ _ _ | exact macP_len _ _ | exact zd_length | exact Sg.hr _ | exact Sg.hp _ | exact Sg.hg _ | exact prevAt_len _ _ | rfl), sgL_len (by first | assumption | exact shaP_len _ | exact sgn_len _ _ _ _ | exact macP_len _ _ | exact zd_length | exact Sg.hr _ | exact Sg.hp _ | exact Sg.hg _ | exact prevAt_len _ _ | rfl) (by first | assumption | exact shaP_len _ | exact sgn_len _ _ _ _ | exact macP_len _ _ | exact zd_length | exact Sg.hr _ | exact Sg.hp _ | exact Sg.hg _ | exact prevAt_len _ _ | rfl) (by first | assumption | exact shaP_len _ | exact sgn_len _ _ _ _ | exact macP_len _ _ | exact zd_length | exact Sg.hr _ | exact Sg.hp _ | exact Sg.hg _ | exact prevAt_len _ _ | rfl)]))) (by first | exact sgL_one _ _ _ _ | exact hd_one _ _ _ | exact lkL_one _ _ | exact dg_one _) (by first | exact sgc_len _ | (rw [sgc_len]; exact sgL_len zd_length zd_length zd_length) | (rw [sgc_len, sgL_len zd_length zd_length zd_length]) | exact sgL_len (by first | assumption | exact shaP_len _ | exact sgn_len _ _ _ _ | exact macP_len _ _ | exact zd_length | exact Sg.hr _ | exact Sg.hp _ | exact Sg.hg _ | exact prevAt_len _ _ | rfl) (by first | assumption | exact shaP_len _ | exact sgn_len _ _ _ _ | exact macP_len _ _ | exact zd_length | exact Sg.hr _ | exact Sg.hp _ | exact Sg.hg _ | exact prevAt_len _ _ | rfl) (by first | assumption | exact shaP_len _ | exact sgn_len _ _ _ _ | exact macP_len _ _ | exact zd_length | exact Sg.hr _ | exact Sg.hp _ | exact Sg.hg _ | exact prevAt_len _ _ | rfl) | (rw [sgL_len (by first | assumption | exact shaP_len _ | exact sgn_len _ _ _ _ | exact macP_len _ _ | exact zd_length | exact Sg.hr _ | exact Sg.hp _ | exact Sg.hg _ | exact prevAt_len _ _ | rfl) (by first | assumption | exact shaP_len _ | exact sgn_len _ _ _ _ | exact macP_len _ _ | exact zd_length | exact Sg.hr _ | exact Sg.hp _ | exact Sg.hg _ | exact prevAt_len _ _ | rfl) (by first | assumption | exact shaP_len _ | exact sgn_len _ _ _ _ | exact macP_len _ _ | exact zd_length | exact Sg.hr _ | exact Sg.hp _ | exact Sg.hg _ | exact prevAt_len _ _ | rfl), sgL_len (by first | assumption | exact shaP_len _ | exact sgn_len _ _ _ _ | exact macP_len _ _ | exact zd_length | exact Sg.hr _ | exact Sg.hp _ | exact Sg.hg _ | exact prevAt_len _ _ | rfl) (by first | assumption | exact shaP_len _ | exact sgn_len _ _ _ _ | exact macP_len _ _ | exact zd_length | exact Sg.hr _ | exact Sg.hp _ | exact Sg.hg _ | exact prevAt_len _ _ | rfl) (by first | assumption | exact shaP_len _ | exact sgn_len _ _ _ _ | exact macP_len _ _ | exact zd_length | exact Sg.hr _ | exact Sg.hp _ | exact Sg.hg _ | exact prevAt_len _ _ | rfl)])) ?_
  refine L_v rfl rfl rfl (V_assign rfl rfl) ?_
  refine L_nil ?_
  change J _ _ _ _
  refine J_seq ?_
  refine J_region ?_
  refine L_v rfl rfl rfl (V_loadW 0 rfl rfl rfl Tryd.underlying36 rfl (szd sz36d (sgL_len zd_length zd_length (sgn_len _ _ _ _)))) ?_
  refine L_buildSlice (vs := [(0, .agg (sgc sgX).toArray)]) (l := sgc sgX) rfl rfl rfl rfl rfl (bsS1 _) (fun b1 => ?_)
  refine L_callV rfl rfl rfl rfl rfl rfl tx20d (fun w1 hw => chain_b (a := some ⟨b1, 0, none⟩) (n := 1) (c := 1) (l := [sgX]) rfl (sl1 (SlC.of_own hw (i := 1) (ks := sgc sgX) (r := []) (by rw [List.append_nil]; rfl) (sgc_len _) 1)) (by omega) (TabK.later hw (by simp) hK) ch1) ?_
  refine L_v rfl rfl rfl (V_assign rfl rfl) ?_
  refine L_nil ?_
  change J _ _ _ _
  refine J_seq ?_
  refine J_region ?_
  refine L_v rfl rfl rfl (V_loadW 0 rfl rfl rfl Tryd.underlying36 rfl (szd sz36d (sgL_len zd_length zd_length (sgn_len _ _ _ _)))) ?_
  refine L_v rfl rfl rfl (V_loadW 0 rfl rfl rfl Tryd.underlying36 rfl (szd sz36d (sgL_len zd_length zd_length (sgn_len _ _ _ _)))) ?_
  refine L_buildSlice (vs := [(0, .agg (sgc sgX).toArray), (1, .agg (sgc sgX).toArray)]) (l := sgc sgX ++ sgc sgX) rfl rfl rfl rfl rfl (bsS2 _ _) (fun b2 => ?_)
  refine L_callV rfl rfl rfl rfl rfl rfl tx20d (fun w1 hw => chain_b (a := some ⟨b2, 0, none⟩) (n := 2) (c := 2) (l := [sgX, sgX]) rfl (sl2 (SlC.of_own hw (i := 2) (ks := sgc sgX ++ sgc sgX) (r := []) (by rw [List.append_nil]; rfl) (by rw [List.length_append, sgc_len]) 2)) (by omega) (TabK.later hw (by simp) hK) ch2) ?_
  refine L_v rfl rfl rfl (V_assign rfl rfl) ?_
  refine L_nil ?_
  change J _ _ _ _
  refine J_seq ?_
  refine J_region ?_
  refine L_v rfl rfl rfl (V_move rfl rfl) ?_
  refine L_v rfl rfl rfl (V_eql rfl rfl rfl (by first | exact decide_eq_true (by omega) | exact decide_eq_false (by omega) | rfl)) ?_
  refine L_v rfl rfl rfl (V_move rfl rfl) ?_
  refine L_wv rfl rfl rfl rfl rfl rfl (V_move rfl rfl) ?_
  refine L_wv rfl rfl rfl rfl rfl rfl (V_eql rfl rfl rfl (by first | exact decide_eq_true (by omega) | exact decide_eq_false (by omega) | rfl)) ?_
  first | refine L_v rfl rfl rfl (V_pickT rfl rfl rfl) ?_ | refine L_v rfl rfl rfl (V_pickF rfl rfl rfl) ?_
  refine L_v rfl rfl rfl (V_move rfl rfl) ?_
  refine L_wv rfl rfl rfl rfl rfl rfl (V_move rfl rfl) ?_
  refine L_wv rfl rfl rfl rfl rfl rfl (V_eql rfl rfl rfl (by first | exact decide_eq_true (by omega) | exact decide_eq_false (by omega) | rfl)) ?_
  first | refine L_v rfl rfl rfl (V_pickT rfl rfl rfl) ?_ | refine L_v rfl rfl rfl (V_pickF rfl rfl rfl) ?_
  refine L_v rfl rfl rfl (V_move rfl rfl) ?_
  refine L_wcallV rfl rfl rfl rfl rfl rfl rfl rfl rfl tx20d (fun w1 hw => chain_b (a := none) (n := 0) (c := 0) (l := []) rfl (.inl ⟨rfl, rfl, none, 0, rfl⟩) (by omega) (TabK.later hw (by simp) hK) ch3) ?_
  refine L_wv rfl rfl rfl rfl rfl rfl (V_eql rfl rfl rfl (by first | exact decide_eq_true (by omega) | exact decide_eq_false (by omega) | rfl)) ?_
  first | refine L_v rfl rfl rfl (V_pickT rfl rfl rfl) ?_ | refine L_v rfl rfl rfl (V_pickF rfl rfl rfl) ?_
  refine L_v rfl rfl rfl (V_assign rfl rfl) ?_
  refine L_nil ?_
  change J _ _ _ _
  refine J_ret ?_
  change Kret _ _ _ Exit.ret _
  refine ret1 rfl rfl (RV_t rfl) ?_
  exact fun w' h => ⟨rfl, h.fr⟩

end Go.Proofs.YtbckeoidnpfbnaaDoor
