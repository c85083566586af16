/- What a chain tells. -/
import Derived.Test.YtbckeoidnpfbnaaDoorChainPure
import Derived.Test.YtbckeoidnpfbnaaDoorSx7
set_option linter.unusedVariables false
set_option linter.unusedSimpArgs false
set_option maxRecDepth 100000
namespace Go.Proofs.YtbckeoidnpfbnaaDoor
open Go.Sx
def lkL (e : Int) (p : List Int) : List Value := .int .i64 e :: dg p
theorem lkL_len {e : Int} {p : List Int} (hp : p.length = 32) : (lkL e p).length = 33 := by simp [lkL, dg_length, hp]
theorem lkL_one (e : Int) (p : List Int) : ∀ u ∈ lkL e p, u.oneCell' = true := by
  intro u hu
  rcases List.mem_cons.1 hu with rfl | hu
  · rfl
  · exact dg_one _ u hu
theorem bdK0 (w : World) : (Instr.build 63 [(0, .int .i64 1)].toArray).run Tryd.prog w = .ok (.agg (lkL 1 zd).toArray) w := by kernel_rfl
theorem bltK (parts : List (Nat × Value)) : Tryd.prog.built 63 parts = Instr.fill ([(0, 1), (1, 32)].toArray[·]?) (lkL 0 zd).toArray parts := by kernel_rfl
theorem bdK {e : Int} {p : List Int} (hp : p.length = 32) (w : World) : (Instr.build 63 [(0, .int .i64 e), (1, .agg (dg p).toArray)].toArray).run Tryd.prog w = .ok (.agg (lkL e p).toArray) w := by
  refine run_build w _ _ _ ?_
  have h2 : (dg p).length = 32 := by rw [dg_length, hp]
  show Tryd.prog.built 63 [(0, .int .i64 e), (1, .agg (dg p).toArray)] = _
  rw [bltK, fill_set (vl := [.int .i64 e]) (i := 0) (off := 0) (n := 1) rfl rfl rfl (by rw [lkL_len zd_length]; decide)]
  have h3 : ((lkL 0 zd).take 0 ++ [(Value.int .i64 e)] ++ (lkL 0 zd).drop (0 + 1)).length = 33 := by
    rw [List.length_append, List.length_append, List.length_take, List.length_drop, lkL_len zd_length]
    rfl
  rw [fill_set (vl := dg p) (i := 1) (off := 1) (n := 32) rfl rfl h2 (by rw [h3]; decide)]
  have h4 : ((lkL 0 zd).take 0 ++ [(Value.int .i64 e)] ++ (lkL 0 zd).drop (0 + 1)).take 1 = [.int .i64 e] := rfl
  have h5 : ((lkL 0 zd).take 0 ++ [(Value.int .i64 e)] ++ (lkL 0 zd).drop (0 + 1)).drop (1 + 32) = [] := List.drop_eq_nil_of_le (by rw [h3]; decide)
  rw [h4, h5, List.append_nil]
  rfl
theorem egK : Tryd.prog.eqGuardType Tryd.prog.depth 63 = false := by kernel_rfl
theorem lk_ext {e : Int} {p : List Int} (hp : p.length = 32) : (lkL e p).toArray.extract 1 (1 + 32) = (dg p).toArray := by
  apply Array.ext'
  simp only [Array.toList_extract, List.extract_eq_take_drop]
  show List.take (1 + 32 - 1) (dg p) = _
  rw [List.take_of_length_le (by rw [dg_length]; omega)]
theorem eqK {e e' : Int} {p p' : List Int} (hp : p.length = 32) (hp' : p'.length = 32) (w : World) :
    (Op.equal 63 (.agg (lkL e p).toArray) (.agg (lkL e' p').toArray)).run Tryd.prog w = .ok (decide (e = e' ∧ p = p')) w := by
  show (Op.equalIn (9999 + 1) _ _ _).run _ w = _
  rw [run_eqStruct w 9999 _ _ (by kernel_rfl) (by kernel_rfl) (spec := [(true, 3, 0), (true, 23, 1)]) (by kernel_rfl)]
  rw [eqF_one (run_part1 (cs := lkL e p) (v := .int .i64 e) Tryd.underlying3 rfl rfl) (run_part1 (cs := lkL e' p') (v := .int .i64 e') Tryd.underlying3 rfl rfl) (run_equalIn_int w 9998 _ _ _ e e' Tryd.underlying3)]
  rw [eqF_one (by rw [run_partArr Tryd.underlying23 szD, lk_ext hp]) (by rw [run_partArr Tryd.underlying23 szD, lk_ext hp']) (run_eqDg Tryd.underlying23 Tryd.underlying5 szU hp hp' w 9997)]
  by_cases h1 : e = e' <;> by_cases h2 : p = p' <;> simp [h1, h2, eqF]
def chG (b0 b1 b2 b3 : Nat) (s : ByteArray) (a : Option Addr) (n c : Nat) (l : List Sg) (k : Nat) : Mem :=
  [(b0, row 9 [.string s]), (b1, row 27 [.int .i64 0]), (b2, row 63 (lkL ((k : Int) + 1) (prevAt l k))), (b3, row 44 [.slice a n c])]
def chM (b0 b1 b2 b3 : Nat) (s : ByteArray) (a : Option Addr) (n c : Nat) (l : List Sg) (k : Nat) (z : Int) : Mem :=
  if chainN (codeAt s l) k = 0 then chG b0 b1 b2 b3 s a n c l k else [(0, row 0 []), (0, row 0 [])]
def chS (b1 : Nat) (s : ByteArray) (l : List Sg) (z : Int) : Mem :=
  if chainN (codeAt s l) l.length = z then [(b1, row 27 [.int .i64 z])] else [(0, row 0 []), (0, row 0 [])]
theorem chM_pos {b0 b1 b2 b3 : Nat} {s : ByteArray} {a : Option Addr} {n c : Nat} {l : List Sg} {k : Nat} {z : Int} (h : chainN (codeAt s l) k = 0) : chM b0 b1 b2 b3 s a n c l k z = chG b0 b1 b2 b3 s a n c l k := if_pos h
theorem chG_next {b0 b1 b2 b3 : Nat} {s : ByteArray} {a : Option Addr} {n c : Nat} {l : List Sg} {k : Nat} : chG b0 b1 b2 b3 s a n c l (k + 1) = [(b0, row 9 [.string s]), (b1, row 27 [.int .i64 0]), (b2, row 63 (lkL ((k : Int) + 1 + 1) (dgP (l.getD k s0)))), (b3, row 44 [.slice a n c])] := by
  unfold chG
  rw [show (((k + 1 : Nat) : Int) + 1) = (k : Int) + 1 + 1 by omega]
  rfl
theorem pk_eq {A B T m : Mem} (e : A = B) (h : Pk (B ++ T) m) : Pk (A ++ T) m := e ▸ h
theorem chM_nd {b0 b1 b2 b3 : Nat} {s : ByteArray} {a : Option Addr} {n c : Nat} {l : List Sg} {k : Nat} {z : Int} (h : ((chM b0 b1 b2 b3 s a n c l k z).map (·.1)).Nodup) : chainN (codeAt s l) k = 0 := by
  unfold chM at h
  by_cases h1 : chainN (codeAt s l) k = 0
  · exact h1
  · rw [if_neg h1] at h
    simp at h
theorem chS_pos {b1 : Nat} {s : ByteArray} {l : List Sg} {z : Int} (h : chainN (codeAt s l) l.length = z) : chS b1 s l z = [(b1, row 27 [.int .i64 z])] := if_pos h
theorem chS_nd {b1 : Nat} {s : ByteArray} {l : List Sg} {z : Int} (h : ((chS b1 s l z).map (·.1)).Nodup) : chainN (codeAt s l) l.length = z := by
  unfold chS at h
  by_cases h1 : chainN (codeAt s l) l.length = z
  · exact h1
  · rw [if_neg h1] at h
    simp at h
theorem sz3c : (Tryd.prog.info? 3).map (·.size) = some 1 := by kernel_rfl
theorem sz5c : (Tryd.prog.info? 5).map (·.size) = some 1 := by kernel_rfl
theorem sz23c : (Tryd.prog.info? 23).map (·.size) = some 32 := by kernel_rfl
theorem sz25c : (Tryd.prog.info? 25).map (·.size) = some 65 := by kernel_rfl
theorem sz27c : (Tryd.prog.info? 27).map (·.size) = some 1 := by kernel_rfl
theorem sz36c : (Tryd.prog.info? 36).map (·.size) = some 97 := by kernel_rfl
theorem sz63c : (Tryd.prog.info? 63).map (·.size) = some 33 := by kernel_rfl
theorem tx11c : Txt Tryd.prog 11 := txt_of Tryd.func11 rfl (by kernel_rfl)
theorem tx17c : Txt Tryd.prog 17 := txt_of Tryd.func17 rfl (by kernel_rfl)
theorem tx18c : Txt Tryd.prog 18 := txt_of Tryd.func18 rfl (by kernel_rfl)
theorem tx31c : Txt Tryd.prog 31 := txt_of Tryd.func31 rfl (by kernel_rfl)
theorem tx32c : Txt Tryd.prog 32 := txt_of Tryd.func32 rfl (by kernel_rfl)
theorem tx38c : Txt Tryd.prog 38 := txt_of Tryd.func38 rfl (by kernel_rfl)
theorem tx39c : Txt Tryd.prog 39 := txt_of Tryd.func39 rfl (by kernel_rfl)
theorem tx43c : Txt Tryd.prog 43 := txt_of Tryd.func43 rfl (by kernel_rfl)
theorem z23c : (Tryd.prog.info? 23).bind (·.zero) = some (.agg (dg zd).toArray) := by kernel_rfl
theorem z27c : (Tryd.prog.info? 27).bind (·.zero) = some (.int .i64 0) := by kernel_rfl
theorem z36c : (Tryd.prog.info? 36).bind (·.zero) = some (.agg (sgL 0 zd zd zd).toArray) := by kernel_rfl
theorem z63c : (Tryd.prog.info? 63).bind (·.zero) = some (.agg (lkL 0 zd).toArray) := by kernel_rfl

theorem values_o (a : Option Addr) (n c : Nat) (w : World) :
    Calls Tryd.prog 38 #[.slice a n c] w fun e w' => ∃ b, e = .returned (.func (.func 43) #[] #[.pointer (some ⟨b, 0, none⟩)]) ∧ Fr [] w w' ∧ w.heap.size ≤ b ∧ w'.heap[b]? = some (row 44 [.slice a n c]) := by
  refine calls_of (args := [.slice a n c]) ([]) ([]) ([]) Tryd.func38 rfl rfl (okW0 _ _ _ _) ?_
  refine J_seq ?_
  refine J_region ?_
  refine L_box rfl rfl rfl rfl rfl (fun b0 => ?_)
  refine L_v rfl rfl rfl (V_assign rfl rfl) ?_
  refine L_nil ?_
  change J _ _ _ _
  refine J_seq ?_
  refine J_region ?_
  refine L_v rfl rfl rfl (V_makeFunc rfl rfl rfl) ?_
  refine L_v rfl rfl rfl (V_assign rfl rfl) ?_
  refine L_nil ?_
  change J _ _ _ _
  refine J_ret ?_
  change Kret _ _ _ Exit.ret _
  refine ret1 rfl rfl (RV_t rfl) ?_
  exact fun w' h => ⟨b0, rfl, h.fr, (by simpa using h.may b0 (List.mem_singleton.2 rfl)), h.at (i := 0) rfl⟩

theorem values_w {Z X : Type} (w0 : World) (nt : Nat) (fs : List Fact) (M : Nat → Z → Mem) (Ms : Z → Mem) (priv : Z → X) (js : Code) (D lp : Nat) (r : Loop) (i b : Nat) (a : Option Addr) (n c : Nat) (L : List Sg) (z0 : Z) (w : World) (hL : L.length = n) (hu : SlC 97 w0 (.slice a n c) n (sgs L)) (hn : n ≤ 1048576) (hi : (M 0 z0)[i]? = some (b, row 44 [.slice a n c]))
    (hR : RoundsOk { P := Tryd.prog, w0 := w0, nt := nt } fs M Ms priv n (fun k => [.agg (sgc (L.getD k s0)).toArray]) js D lp r) (hw : OkW { P := Tryd.prog, w0 := w0, nt := nt } (M 0 z0 ++ tl D lp r) fs w) :
    Calls Tryd.prog 43 #[.func (.yield lp) #[] #[], .pointer (some ⟨b, 0, none⟩)] w fun e w' => IterR { P := Tryd.prog, w0 := w0, nt := nt } fs M Ms n js D lp r e w' := by
  have hi2 : (M 0 z0 ++ tl D lp r)[i]? = some (b, row 44 [.slice a n c]) := by rw [List.getElem?_append_left (List.getElem?_eq_some_iff.1 hi).1]; exact hi
  refine calls_in (args := [.func (.yield lp) #[] #[], .pointer (some ⟨b, 0, none⟩)]) [] (M 0 z0 ++ tl D lp r) fs Tryd.func43 rfl rfl (hw.cast rfl rfl) ?_
  refine J_seq ?_
  refine J_region ?_
  refine L_v rfl rfl rfl (V_load1 i rfl rfl hi2 Tryd.underlying44 rfl rfl) ?_
  refine L_v rfl rfl rfl (V_len rfl rfl Tryd.underlying44 rfl) ?_
  refine L_v rfl rfl rfl (V_move rfl rfl) ?_
  refine L_nil ?_
  change J _ _ _ _
  refine J_block ?_
  refine J_loop (X := Nat × Z) (fun x => { env := [(0, .func (.yield lp) #[] #[]), (5, .slice a n c), (6, .int .i64 (n : Int)), (7, .int .i64 (x.1 : Int))], mem := M x.1 x.2 ++ tl D lp r, facts := fs }) (fun x => x.1 ≤ n) (fun x => n - x.1) (0, z0) (Nat.zero_le _) ⟨⟨rfl, rfl, rfl, rfl, trivial⟩, List.Sublist.refl _, fun f hf => hf, rfl⟩ ?_
  rintro ⟨k, z⟩ hk
  simp only at hk ⊢
  refine J_seq ?_
  refine J_region ?_
  refine L_v rfl rfl rfl (V_lss rfl rfl rfl (by first | exact decide_eq_true (by omega) | exact decide_eq_false (by omega) | rfl)) ?_
  refine L_nil ?_
  change J _ _ _ _
  refine J_seq ?_
  refine J_cond rfl (fun h1 => ?_) (fun h1 => ?_)
  ·
    first | (have h1 := of_decide_eq_true h1) | (have h1 := of_decide_eq_false h1) | skip
    refine J_skip ?_
    change J _ _ _ _
    refine J_seq ?_
    refine J_block ?_
    refine J_seq ?_
    refine J_region ?_
    refine L_v rfl rfl rfl (V_indexC rfl rfl rfl Tryd.underlying44 sz36c (fun w hw => SlC.later hw rfl hu) (by omega) (by omega)) ?_
    refine L_v rfl rfl rfl (V_loadCN (vs := sgc (L.getD k s0)) rfl rfl Tryd.underlying36 rfl (szd sz36c (by first | exact sgc_len _ | (rw [sgc_len]; exact sgL_len zd_length zd_length zd_length) | (rw [sgc_len, sgL_len zd_length zd_length zd_length]) | exact sgL_len (by first | assumption | exact shaP_len _ | exact sgn_len _ _ _ _ | exact macP_len _ _ | exact zd_length | exact Sg.hr _ | exact Sg.hp _ | exact Sg.hg _ | exact prevAt_len _ _ | rfl) (by first | assumption | exact shaP_len _ | exact sgn_len _ _ _ _ | exact macP_len _ _ | exact zd_length | exact Sg.hr _ | exact Sg.hp _ | exact Sg.hg _ | exact prevAt_len _ _ | rfl) (by first | assumption | exact shaP_len _ | exact sgn_len _ _ _ _ | exact macP_len _ _ | exact zd_length | exact Sg.hr _ | exact Sg.hp _ | exact Sg.hg _ | exact prevAt_len _ _ | rfl) | (rw [sgL_len (by first | assumption | exact shaP_len _ | exact sgn_len _ _ _ _ | exact macP_len _ _ | exact zd_length | exact Sg.hr _ | exact Sg.hp _ | exact Sg.hg _ | exact prevAt_len _ _ | rfl) (by first | assumption | exact shaP_len _ | exact sgn_len _ _ _ _ | exact macP_len _ _ | exact zd_length | exact Sg.hr _ | exact Sg.hp _ | exact Sg.hg _ | exact prevAt_len _ _ | rfl) (by first | assumption | exact shaP_len _ | exact sgn_len _ _ _ _ | exact macP_len _ _ | exact zd_length | exact Sg.hr _ | exact Sg.hp _ | exact Sg.hg _ | exact prevAt_len _ _ | rfl), sgL_len (by first | assumption | exact shaP_len _ | exact sgn_len _ _ _ _ | exact macP_len _ _ | exact zd_length | exact Sg.hr _ | exact Sg.hp _ | exact Sg.hg _ | exact prevAt_len _ _ | rfl) (by first | assumption | exact shaP_len _ | exact sgn_len _ _ _ _ | exact macP_len _ _ | exact zd_length | exact Sg.hr _ | exact Sg.hp _ | exact Sg.hg _ | exact prevAt_len _ _ | rfl) (by first | assumption | exact shaP_len _ | exact sgn_len _ _ _ _ | exact macP_len _ _ | exact zd_length | exact Sg.hr _ | exact Sg.hp _ | exact Sg.hg _ | exact prevAt_len _ _ | rfl)]))) (fun w hw => SlC.later hw rfl hu) (by first | exact Nat.zero_lt_succ _ | (rw [dg_length, Sg.hp]; decide)) (sgs_v (by omega))) ?_
    refine L_alloc rfl rfl rfl rfl z36c (fun b0 => ?_)
    refine L_pk ((b0, row 36 (sgL 0 zd zd zd)) :: (M k z ++ tl D lp r)) (Pk.of_perm (l := (M k z ++ tl D lp r) ++ [(b0, row 36 (sgL 0 zd zd zd))]) List.perm_append_comm (List.Sublist.refl _)) ?_
    refine L_storeW 0 rfl rfl rfl rfl rfl rfl (szd sz36c (by first | exact sgc_len _ | (rw [sgc_len]; exact sgL_len zd_length zd_length zd_length) | (rw [sgc_len, sgL_len zd_length zd_length zd_length]) | exact sgL_len (by first | assumption | exact shaP_len _ | exact sgn_len _ _ _ _ | exact macP_len _ _ | exact zd_length | exact Sg.hr _ | exact Sg.hp _ | exact Sg.hg _ | exact prevAt_len _ _ | rfl) (by first | assumption | exact shaP_len _ | exact sgn_len _ _ _ _ | exact macP_len _ _ | exact zd_length | exact Sg.hr _ | exact Sg.hp _ | exact Sg.hg _ | exact prevAt_len _ _ | rfl) (by first | assumption | exact shaP_len _ | exact sgn_len _ _ _ _ | exact macP_len _ _ | exact zd_length | exact Sg.hr _ | exact Sg.hp _ | exact Sg.hg _ | exact prevAt_len _ _ | rfl) | (rw [sgL_len (by first | assumption | exact shaP_len _ | exact sgn_len _ _ _ _ | exact macP_len _ _ | exact zd_length | exact Sg.hr _ | exact Sg.hp _ | exact Sg.hg _ | exact prevAt_len _ _ | rfl) (by first | assumption | exact shaP_len _ | exact sgn_len _ _ _ _ | exact macP_len _ _ | exact zd_length | exact Sg.hr _ | exact Sg.hp _ | exact Sg.hg _ | exact prevAt_len _ _ | rfl) (by first | assumption | exact shaP_len _ | exact sgn_len _ _ _ _ | exact macP_len _ _ | exact zd_length | exact Sg.hr _ | exact Sg.hp _ | exact Sg.hg _ | exact prevAt_len _ _ | rfl), sgL_len (by first | assumption | exact shaP_len _ | exact sgn_len _ _ _ _ | exact macP_len _ _ | exact zd_length | exact Sg.hr _ | exact Sg.hp _ | exact Sg.hg _ | exact prevAt_len _ _ | rfl) (by first | assumption | exact shaP_len _ | exact sgn_len _ _ _ _ | exact macP_len _ _ | exact zd_length | exact Sg.hr _ | exact Sg.hp _ | exact Sg.hg _ | exact prevAt_len _ _ | rfl) (by first | assumption | exact shaP_len _ | exact sgn_len _ _ _ _ | exact macP_len _ _ | exact zd_length | exact Sg.hr _ | exact Sg.hp _ | exact Sg.hg _ | exact prevAt_len _ _ | rfl)]))) (by first | exact sgL_one _ _ _ _ | exact hd_one _ _ _ | exact lkL_one _ _ | exact dg_one _) (by first | exact sgc_len _ | (rw [sgc_len]; exact sgL_len zd_length zd_length zd_length) | (rw [sgc_len, sgL_len zd_length zd_length zd_length]) | exact sgL_len (by first | assumption | exact shaP_len _ | exact sgn_len _ _ _ _ | exact macP_len _ _ | exact zd_length | exact Sg.hr _ | exact Sg.hp _ | exact Sg.hg _ | exact prevAt_len _ _ | rfl) (by first | assumption | exact shaP_len _ | exact sgn_len _ _ _ _ | exact macP_len _ _ | exact zd_length | exact Sg.hr _ | exact Sg.hp _ | exact Sg.hg _ | exact prevAt_len _ _ | rfl) (by first | assumption | exact shaP_len _ | exact sgn_len _ _ _ _ | exact macP_len _ _ | exact zd_length | exact Sg.hr _ | exact Sg.hp _ | exact Sg.hg _ | exact prevAt_len _ _ | rfl) | (rw [sgL_len (by first | assumption | exact shaP_len _ | exact sgn_len _ _ _ _ | exact macP_len _ _ | exact zd_length | exact Sg.hr _ | exact Sg.hp _ | exact Sg.hg _ | exact prevAt_len _ _ | rfl) (by first | assumption | exact shaP_len _ | exact sgn_len _ _ _ _ | exact macP_len _ _ | exact zd_length | exact Sg.hr _ | exact Sg.hp _ | exact Sg.hg _ | exact prevAt_len _ _ | rfl) (by first | assumption | exact shaP_len _ | exact sgn_len _ _ _ _ | exact macP_len _ _ | exact zd_length | exact Sg.hr _ | exact Sg.hp _ | exact Sg.hg _ | exact prevAt_len _ _ | rfl), sgL_len (by first | assumption | exact shaP_len _ | exact sgn_len _ _ _ _ | exact macP_len _ _ | exact zd_length | exact Sg.hr _ | exact Sg.hp _ | exact Sg.hg _ | exact prevAt_len _ _ | rfl) (by first | assumption | exact shaP_len _ | exact sgn_len _ _ _ _ | exact macP_len _ _ | exact zd_length | exact Sg.hr _ | exact Sg.hp _ | exact Sg.hg _ | exact prevAt_len _ _ | rfl) (by first | assumption | exact shaP_len _ | exact sgn_len _ _ _ _ | exact macP_len _ _ | exact zd_length | exact Sg.hr _ | exact Sg.hp _ | exact Sg.hg _ | exact prevAt_len _ _ | rfl)])) ?_
    refine L_nil ?_
    change J _ _ _ _
    refine J_seq ?_
    refine J_region ?_
    refine L_v rfl rfl rfl (V_move rfl rfl) ?_
    refine L_v rfl rfl rfl (V_loadW 0 rfl rfl rfl Tryd.underlying36 rfl (szd sz36c (by first | exact sgc_len _ | (rw [sgc_len]; exact sgL_len zd_length zd_length zd_length) | (rw [sgc_len, sgL_len zd_length zd_length zd_length]) | exact sgL_len (by first | assumption | exact shaP_len _ | exact sgn_len _ _ _ _ | exact macP_len _ _ | exact zd_length | exact Sg.hr _ | exact Sg.hp _ | exact Sg.hg _ | exact prevAt_len _ _ | rfl) (by first | assumption | exact shaP_len _ | exact sgn_len _ _ _ _ | exact macP_len _ _ | exact zd_length | exact Sg.hr _ | exact Sg.hp _ | exact Sg.hg _ | exact prevAt_len _ _ | rfl) (by first | assumption | exact shaP_len _ | exact sgn_len _ _ _ _ | exact macP_len _ _ | exact zd_length | exact Sg.hr _ | exact Sg.hp _ | exact Sg.hg _ | exact prevAt_len _ _ | rfl) | (rw [sgL_len (by first | assumption | exact shaP_len _ | exact sgn_len _ _ _ _ | exact macP_len _ _ | exact zd_length | exact Sg.hr _ | exact Sg.hp _ | exact Sg.hg _ | exact prevAt_len _ _ | rfl) (by first | assumption | exact shaP_len _ | exact sgn_len _ _ _ _ | exact macP_len _ _ | exact zd_length | exact Sg.hr _ | exact Sg.hp _ | exact Sg.hg _ | exact prevAt_len _ _ | rfl) (by first | assumption | exact shaP_len _ | exact sgn_len _ _ _ _ | exact macP_len _ _ | exact zd_length | exact Sg.hr _ | exact Sg.hp _ | exact Sg.hg _ | exact prevAt_len _ _ | rfl), sgL_len (by first | assumption | exact shaP_len _ | exact sgn_len _ _ _ _ | exact macP_len _ _ | exact zd_length | exact Sg.hr _ | exact Sg.hp _ | exact Sg.hg _ | exact prevAt_len _ _ | rfl) (by first | assumption | exact shaP_len _ | exact sgn_len _ _ _ _ | exact macP_len _ _ | exact zd_length | exact Sg.hr _ | exact Sg.hp _ | exact Sg.hg _ | exact prevAt_len _ _ | rfl) (by first | assumption | exact shaP_len _ | exact sgn_len _ _ _ _ | exact macP_len _ _ | exact zd_length | exact Sg.hr _ | exact Sg.hp _ | exact Sg.hg _ | exact prevAt_len _ _ | rfl)])))) ?_
    refine L_yield rfl rfl rfl rfl rfl rfl (vs := [.agg (sgc (L.getD k s0)).toArray]) rfl (fun w hw => YieldAt.mono (hR k z w (by omega) ((hw.sub (List.sublist_cons_self _ _) (fun f hf => hf)).cast rfl rfl)) ?_)
    rintro e w' (h9 | h9)
    rotate_left
    · obtain ⟨rfl, z', hw'⟩ := h9
      refine ⟨_, _, rfl, hw'.cast rfl rfl, ?_⟩
      refine L_v rfl rfl rfl (V_not rfl rfl rfl) ?_
      refine L_nil ?_
      change J _ _ _ _
      refine J_true rfl ?_
      refine J_ret ?_
      change Kret _ _ _ Exit.ret _
      exact ret0 rfl rfl (fun w2 h2 => ⟨⟨_, rfl⟩, .inr ⟨z', h2.cast rfl rfl⟩⟩)
    obtain ⟨rfl, z', hz', hw'⟩ := h9
    refine ⟨_, _, rfl, hw'.cast rfl rfl, ?_⟩
    refine L_v rfl rfl rfl (V_not rfl rfl rfl) ?_
    refine L_nil ?_
    change J _ _ _ _
    refine J_false rfl ?_
    refine J_skip ?_
    change J _ _ _ _
    refine J_region ?_
    refine L_v rfl rfl rfl (V_add rfl rfl rfl (by first | exact Go.IntWalk.i64_in _ (by omega) | rfl)) ?_
    refine L_v rfl rfl rfl (V_move rfl rfl) ?_
    refine L_nil ?_
    exact ⟨(k + 1, z'), by show k + 1 ≤ n; omega, by show n - (k + 1) < n - k; omega, ⟨rfl, rfl, rfl, rfl, trivial⟩, List.Sublist.refl _, fun f hf => hf, rfl⟩
  ·
    first | (have h1 := of_decide_eq_true h1) | (have h1 := of_decide_eq_false h1) | skip
    refine J_exit ?_
    change Kret _ _ _ Exit.normal _
    refine Kret_normal ?_
    refine ret0 rfl rfl  ?_
    exact fun w2 h2 => ⟨⟨_, rfl⟩, .inl ⟨z, by rw [show n = k by omega]; exact h2.cast rfl rfl⟩⟩

theorem chain_noK (s : ByteArray) (a : Option Addr) (n c : Nat) (l : List Sg) (w : World) (hl : l.length = n) (hu : SlC 97 w (.slice a n c) n (sgs l)) (hn : n ≤ 1048576) (hk : okK s = false) :
    Calls Tryd.prog 20 #[.string s, .slice a n c] w fun e w' => e = .returned (.int .i64 80) ∧ Fr [] w w' := by
  refine calls_of_m (args := [.string s, .slice a n c]) ([]) ([]) ([]) Tryd.func20 rfl rfl (okW0 _ _ _ _) ?_
  refine J_seq ?_
  refine J_region ?_
  refine L_box rfl rfl rfl rfl rfl (fun b0 => ?_)
  refine L_alloc rfl rfl rfl rfl z27c (fun b1 => ?_)
  refine L_nil ?_
  change J _ _ _ _
  refine J_seq ?_
  refine J_seq ?_
  refine J_region ?_
  refine L_v rfl rfl rfl (V_load1 0 rfl rfl rfl Tryd.underlying9 rfl (by rfl)) ?_
  refine L_callV rfl rfl rfl rfl rfl rfl tx31c (fun w1 _ => sng_b hk w1) ?_
  refine L_v rfl rfl rfl (V_not rfl rfl rfl) ?_
  refine L_nil ?_
  change J _ _ _ _
  refine J_true rfl ?_
  refine J_seq ?_
  refine J_region ?_
  refine L_store1 1 rfl rfl rfl rfl rfl rfl rfl sz27c (by first | exact Nat.zero_lt_succ _ | (simp only [dg_length, List.length_append, List.length_take, List.length_drop, zd_length]; omega) | omega) (by first | rfl | exact dg_set _ _ _) ?_
  refine L_nil ?_
  change J _ _ _ _
  refine J_ret ?_
  change KretM _ _ _ Exit.ret _
  refine KretM_plain rfl ?_
  refine ret1 rfl rfl (RV_c1 1 rfl rfl Tryd.underlying27 rfl rfl) ?_
  exact fun w' h => ⟨rfl, h.fr⟩

set_option maxHeartbeats 2000000 in
theorem chain_ok (s : ByteArray) (a : Option Addr) (n c : Nat) (l : List Sg) (w : World) (hl : l.length = n) (hu : SlC 97 w (.slice a n c) n (sgs l)) (hn : n ≤ 1048576) (hk : okK s = true) (hK : TabK KT 0 w)  :
    Calls Tryd.prog 20 #[.string s, .slice a n c] w fun e w' => e = .returned (.int .i64 (chainN (codeAt s l) l.length)) ∧ Fr [] w w' := by
  refine calls_of_m (args := [.string s, .slice a n c]) ([]) ([]) ([]) Tryd.func20 rfl rfl (okW0 _ _ _ _) ?_
  refine J_seq ?_
  refine J_region ?_
  refine L_box rfl rfl rfl rfl rfl (fun b0 => ?_)
  refine L_alloc rfl rfl rfl rfl z27c (fun b1 => ?_)
  refine L_nil ?_
  change J _ _ _ _
  refine J_seq ?_
  refine J_seq ?_
  refine J_region ?_
  refine L_v rfl rfl rfl (V_load1 0 rfl rfl rfl Tryd.underlying9 rfl (by rfl)) ?_
  refine L_callV rfl rfl rfl rfl rfl rfl tx31c (fun w1 _ => sng_b hk w1) ?_
  refine L_v rfl rfl rfl (V_not rfl rfl rfl) ?_
  refine L_nil ?_
  change J _ _ _ _
  refine J_false rfl ?_
  refine J_skip ?_
  change J _ _ _ _
  refine J_seq ?_
  refine J_region ?_
  refine L_v rfl rfl rfl (V_build (vs := [(0, .int .i64 1)]) rfl rfl bdK0) ?_
  refine L_alloc rfl rfl rfl rfl z63c (fun b2 => ?_)
  refine L_storeW 2 rfl rfl rfl rfl rfl rfl (szd sz63c (by first | exact lkL_len (by first | assumption | exact shaP_len _ | exact sgn_len _ _ _ _ | exact macP_len _ _ | exact zd_length | exact Sg.hr _ | exact Sg.hp _ | exact Sg.hg _ | exact prevAt_len _ _ | rfl) | (rw [lkL_len (by first | assumption | exact shaP_len _ | exact sgn_len _ _ _ _ | exact macP_len _ _ | exact zd_length | exact Sg.hr _ | exact Sg.hp _ | exact Sg.hg _ | exact prevAt_len _ _ | rfl), lkL_len (by first | assumption | exact shaP_len _ | exact sgn_len _ _ _ _ | exact macP_len _ _ | exact zd_length | exact Sg.hr _ | exact Sg.hp _ | exact Sg.hg _ | exact prevAt_len _ _ | rfl)]))) (by first | exact sgL_one _ _ _ _ | exact hd_one _ _ _ | exact lkL_one _ _ | exact dg_one _) (by first | exact lkL_len (by first | assumption | exact shaP_len _ | exact sgn_len _ _ _ _ | exact macP_len _ _ | exact zd_length | exact Sg.hr _ | exact Sg.hp _ | exact Sg.hg _ | exact prevAt_len _ _ | rfl) | (rw [lkL_len (by first | assumption | exact shaP_len _ | exact sgn_len _ _ _ _ | exact macP_len _ _ | exact zd_length | exact Sg.hr _ | exact Sg.hp _ | exact Sg.hg _ | exact prevAt_len _ _ | rfl), lkL_len (by first | assumption | exact shaP_len _ | exact sgn_len _ _ _ _ | exact macP_len _ _ | exact zd_length | exact Sg.hr _ | exact Sg.hp _ | exact Sg.hg _ | exact prevAt_len _ _ | rfl)])) ?_
  refine L_nil ?_
  change J _ _ _ _
  refine J_seq ?_
  refine J_seq ?_
  refine J_region ?_
  refine L_v rfl rfl rfl (V_move rfl rfl) ?_
  refine L_call rfl rfl rfl rfl tx38c (fun w1 hw => (values_o a n c w1).mono ?_)
  rintro e w' ⟨b3, rfl, hfr3, hsz3, hb3⟩
  refine ⟨_, _, _, rfl, hw.add hfr3 hb3 hsz3, rfl, ?_⟩
  refine L_nil ?_
  change J _ _ _ _
  refine J_block ?_
  refine J_rangeFuncX (chM b0 b1 b2 b3 s a n c l) (chS b1 s l) (fun _ => ()) .ret (0 : Int) n (fun k => [.agg (sgc (l.getD k s0)).toArray]) rfl rfl rfl tx43c (fun _ => rfl) (by intro p hp; obtain rfl := List.mem_singleton.1 hp; rfl) rfl ?_ ?_ ?_ ?_
  · intro D lp r w9 hR hw9
    exact values_w w _ [] (chM b0 b1 b2 b3 s a n c l) (chS b1 s l) (fun _ => ()) .ret D lp r 3 b3 a n c l 0 w9 hl hu hn rfl hR (hw9.cast rfl rfl)
  · rintro D lp r k z hk
    refine J_nd fun hnd => ?_
    have hP := chM_nd (nd_app hnd)
    rw [chM_pos hP]
    refine J_region ?_
    refine L_alloc rfl rfl rfl rfl z36c (fun b6 => ?_)
    refine L_storeW 6 rfl rfl rfl rfl rfl rfl (szd sz36c (by first | exact sgc_len _ | (rw [sgc_len]; exact sgL_len zd_length zd_length zd_length) | (rw [sgc_len, sgL_len zd_length zd_length zd_length]) | exact sgL_len (by first | assumption | exact shaP_len _ | exact sgn_len _ _ _ _ | exact macP_len _ _ | exact zd_length | exact Sg.hr _ | exact Sg.hp _ | exact Sg.hg _ | exact prevAt_len _ _ | rfl) (by first | assumption | exact shaP_len _ | exact sgn_len _ _ _ _ | exact macP_len _ _ | exact zd_length | exact Sg.hr _ | exact Sg.hp _ | exact Sg.hg _ | exact prevAt_len _ _ | rfl) (by first | assumption | exact shaP_len _ | exact sgn_len _ _ _ _ | exact macP_len _ _ | exact zd_length | exact Sg.hr _ | exact Sg.hp _ | exact Sg.hg _ | exact prevAt_len _ _ | rfl) | (rw [sgL_len (by first | assumption | exact shaP_len _ | exact sgn_len _ _ _ _ | exact macP_len _ _ | exact zd_length | exact Sg.hr _ | exact Sg.hp _ | exact Sg.hg _ | exact prevAt_len _ _ | rfl) (by first | assumption | exact shaP_len _ | exact sgn_len _ _ _ _ | exact macP_len _ _ | exact zd_length | exact Sg.hr _ | exact Sg.hp _ | exact Sg.hg _ | exact prevAt_len _ _ | rfl) (by first | assumption | exact shaP_len _ | exact sgn_len _ _ _ _ | exact macP_len _ _ | exact zd_length | exact Sg.hr _ | exact Sg.hp _ | exact Sg.hg _ | exact prevAt_len _ _ | rfl), sgL_len (by first | assumption | exact shaP_len _ | exact sgn_len _ _ _ _ | exact macP_len _ _ | exact zd_length | exact Sg.hr _ | exact Sg.hp _ | exact Sg.hg _ | exact prevAt_len _ _ | rfl) (by first | assumption | exact shaP_len _ | exact sgn_len _ _ _ _ | exact macP_len _ _ | exact zd_length | exact Sg.hr _ | exact Sg.hp _ | exact Sg.hg _ | exact prevAt_len _ _ | rfl) (by first | assumption | exact shaP_len _ | exact sgn_len _ _ _ _ | exact macP_len _ _ | exact zd_length | exact Sg.hr _ | exact Sg.hp _ | exact Sg.hg _ | exact prevAt_len _ _ | rfl)]))) (by first | exact sgL_one _ _ _ _ | exact hd_one _ _ _ | exact lkL_one _ _ | exact dg_one _) (by first | exact sgc_len _ | (rw [sgc_len]; exact sgL_len zd_length zd_length zd_length) | (rw [sgc_len, sgL_len zd_length zd_length zd_length]) | exact sgL_len (by first | assumption | exact shaP_len _ | exact sgn_len _ _ _ _ | exact macP_len _ _ | exact zd_length | exact Sg.hr _ | exact Sg.hp _ | exact Sg.hg _ | exact prevAt_len _ _ | rfl) (by first | assumption | exact shaP_len _ | exact sgn_len _ _ _ _ | exact macP_len _ _ | exact zd_length | exact Sg.hr _ | exact Sg.hp _ | exact Sg.hg _ | exact prevAt_len _ _ | rfl) (by first | assumption | exact shaP_len _ | exact sgn_len _ _ _ _ | exact macP_len _ _ | exact zd_length | exact Sg.hr _ | exact Sg.hp _ | exact Sg.hg _ | exact prevAt_len _ _ | rfl) | (rw [sgL_len (by first | assumption | exact shaP_len _ | exact sgn_len _ _ _ _ | exact macP_len _ _ | exact zd_length | exact Sg.hr _ | exact Sg.hp _ | exact Sg.hg _ | exact prevAt_len _ _ | rfl) (by first | assumption | exact shaP_len _ | exact sgn_len _ _ _ _ | exact macP_len _ _ | exact zd_length | exact Sg.hr _ | exact Sg.hp _ | exact Sg.hg _ | exact prevAt_len _ _ | rfl) (by first | assumption | exact shaP_len _ | exact sgn_len _ _ _ _ | exact macP_len _ _ | exact zd_length | exact Sg.hr _ | exact Sg.hp _ | exact Sg.hg _ | exact prevAt_len _ _ | rfl), sgL_len (by first | assumption | exact shaP_len _ | exact sgn_len _ _ _ _ | exact macP_len _ _ | exact zd_length | exact Sg.hr _ | exact Sg.hp _ | exact Sg.hg _ | exact prevAt_len _ _ | rfl) (by first | assumption | exact shaP_len _ | exact sgn_len _ _ _ _ | exact macP_len _ _ | exact zd_length | exact Sg.hr _ | exact Sg.hp _ | exact Sg.hg _ | exact prevAt_len _ _ | rfl) (by first | assumption | exact shaP_len _ | exact sgn_len _ _ _ _ | exact macP_len _ _ | exact zd_length | exact Sg.hr _ | exact Sg.hp _ | exact Sg.hg _ | exact prevAt_len _ _ | rfl)])) ?_
    refine L_nil ?_
    refine ⟨[(b6, row 36 (sgc (l.getD k s0)))], rfl, rfl, rfl, ?_⟩
    refine J_block ?_
    refine J_seq ?_
    refine J_seq ?_
    refine J_region ?_
    refine L_v rfl rfl rfl (V_load1 0 rfl rfl rfl Tryd.underlying9 rfl (by rfl)) ?_
    refine L_v rfl rfl rfl (V_loadW 6 rfl rfl rfl Tryd.underlying36 rfl (szd sz36c (sgc_len _))) ?_
    refine L_callV rfl rfl rfl rfl rfl rfl tx17c (fun w1 hw => chk_w s (l.getD k s0).e (l.getD k s0).r (l.getD k s0).p (l.getD k s0).g w1 (l.getD k s0).hr (l.getD k s0).hp (l.getD k s0).hg (l.getD k s0).hrb (l.getD k s0).hpb (l.getD k s0).hgb (TabK.later hw (by simp) hK)) ?_
    refine L_v rfl rfl rfl (V_assign rfl rfl) ?_
    refine L_nil ?_
    change J _ _ _ _
    refine J_seq ?_
    refine J_region ?_
    refine L_v rfl rfl rfl (V_move rfl rfl) ?_
    refine L_v rfl rfl rfl (V_neq rfl rfl rfl (by first | exact decide_eq_true (by omega) | exact decide_eq_false (by omega) | rfl)) ?_
    refine L_nil ?_
    change J _ _ _ _
    refine J_cond rfl (fun h1 => ?_) (fun h1 => ?_)
    ·
      first | (have h1 := of_decide_eq_true h1) | (have h1 := of_decide_eq_false h1) | skip
      refine J_seq ?_
      refine J_region ?_
      refine L_v rfl rfl rfl (V_move rfl rfl) ?_
      refine L_store1 1 rfl rfl rfl rfl rfl rfl rfl sz27c (by first | exact Nat.zero_lt_succ _ | (simp only [dg_length, List.length_append, List.length_take, List.length_drop, zd_length]; omega) | omega) (by first | rfl | exact dg_set _ _ _) ?_
      refine L_nil ?_
      change J _ _ _ _
      refine J_ret ?_
      have hc : chainN (codeAt s l) l.length = chkS s (l.getD k s0) := by
        have h9 : codeAt s l k = chkS s (l.getD k s0) := code_chk h1
        rw [chainN_hit (k := k) (by omega) hP (by rw [h9]; exact h1), h9]
      exact ⟨rfl, rfl, chkS s (l.getD k s0), by rw [chS_pos hc]; exact Pk.of_sub (List.Sublist.cons _ (List.Sublist.cons_cons _ (List.Sublist.cons _ (List.Sublist.cons _ (List.Sublist.cons_cons _ (List.Sublist.cons_cons _ (List.nil_sublist _)))))))⟩
    ·
      first | (have h1 := of_decide_eq_true h1) | (have h1 := of_decide_eq_false h1) | skip
      have h1 : chkS s (l.getD k s0) = 0 := Classical.not_not.1 h1
      refine J_skip ?_
      change J _ _ _ _
      refine J_seq ?_
      refine J_seq ?_
      refine J_region ?_
      refine L_v rfl rfl rfl (V_loadW 2 rfl rfl rfl Tryd.underlying63 rfl (szd sz63c (by first | exact lkL_len (by first | assumption | exact shaP_len _ | exact sgn_len _ _ _ _ | exact macP_len _ _ | exact zd_length | exact Sg.hr _ | exact Sg.hp _ | exact Sg.hg _ | exact prevAt_len _ _ | rfl) | (rw [lkL_len (by first | assumption | exact shaP_len _ | exact sgn_len _ _ _ _ | exact macP_len _ _ | exact zd_length | exact Sg.hr _ | exact Sg.hp _ | exact Sg.hg _ | exact prevAt_len _ _ | rfl), lkL_len (by first | assumption | exact shaP_len _ | exact sgn_len _ _ _ _ | exact macP_len _ _ | exact zd_length | exact Sg.hr _ | exact Sg.hp _ | exact Sg.hg _ | exact prevAt_len _ _ | rfl)])))) ?_
      refine L_v rfl rfl rfl (V_fieldAddr rfl rfl Tryd.underlying36 rfl sz25c rfl) ?_
      refine L_v rfl rfl rfl (V_fieldAddr rfl rfl Tryd.underlying25 rfl sz3c rfl) ?_
      refine L_v rfl rfl rfl (V_load1 6 rfl rfl rfl Tryd.underlying3 rfl (by rfl)) ?_
      refine L_v rfl rfl rfl (V_fieldAddr rfl rfl Tryd.underlying36 rfl sz25c rfl) ?_
      refine L_v rfl rfl rfl (V_fieldAddr rfl rfl Tryd.underlying25 rfl sz23c rfl) ?_
      refine L_v rfl rfl rfl (V_loadP 6 (vs := dg (l.getD k s0).p) rfl rfl rfl Tryd.underlying23 rfl (szd sz23c (by first | (rw [dg_length]; exact (by first | assumption | exact shaP_len _ | exact sgn_len _ _ _ _ | exact macP_len _ _ | exact zd_length | exact Sg.hr _ | exact Sg.hp _ | exact Sg.hg _ | exact prevAt_len _ _ | rfl)) | exact (rfl : (dg zd).length = (dg zd).length) | (rw [dg_length, dg_length, show zd.length = 32 from rfl]; exact Eq.symm (by first | assumption | exact shaP_len _ | exact sgn_len _ _ _ _ | exact macP_len _ _ | exact zd_length | exact Sg.hr _ | exact Sg.hp _ | exact Sg.hg _ | exact prevAt_len _ _ | rfl)) | (rw [dg_length, dg_length, prevAt_len, shaP_len]))) (sg_prev (l.getD k s0).hr (l.getD k s0).hp)) ?_
      refine L_v rfl rfl rfl (V_build (vs := [(0, .int .i64 (l.getD k s0).e), (1, .agg (dg (l.getD k s0).p).toArray)]) rfl rfl (bdK (l.getD k s0).hp)) ?_
      refine L_v rfl rfl rfl (V_neAgg rfl rfl rfl egK (fun w => eqK (by first | assumption | exact shaP_len _ | exact sgn_len _ _ _ _ | exact macP_len _ _ | exact zd_length | exact Sg.hr _ | exact Sg.hp _ | exact Sg.hg _ | exact prevAt_len _ _ | rfl) (by first | assumption | exact shaP_len _ | exact sgn_len _ _ _ _ | exact macP_len _ _ | exact zd_length | exact Sg.hr _ | exact Sg.hp _ | exact Sg.hg _ | exact prevAt_len _ _ | rfl) w) rfl) ?_
      refine L_nil ?_
      change J _ _ _ _
      refine J_cond rfl (fun h2 => ?_) (fun h2 => ?_)
      ·
        first | (have h2 := of_decide_eq_true h2) | (have h2 := of_decide_eq_false h2) | skip
        have h2 : ¬ ((k : Int) + 1 = (l.getD k s0).e ∧ prevAt l k = (l.getD k s0).p) := of_decide_eq_false (nbT h2)
        refine J_seq ?_
        refine J_region ?_
        refine L_store1 1 rfl rfl rfl rfl rfl rfl rfl sz27c (by first | exact Nat.zero_lt_succ _ | (simp only [dg_length, List.length_append, List.length_take, List.length_drop, zd_length]; omega) | omega) (by first | rfl | exact dg_set _ _ _) ?_
        refine L_nil ?_
        change J _ _ _ _
        refine J_ret ?_
        have hc : chainN (codeAt s l) l.length = 82 := by
          have h9 : codeAt s l k = 82 := code_82 h1 h2
          rw [chainN_hit (k := k) (by omega) hP (by rw [h9]; decide), h9]
        exact ⟨rfl, rfl, 82, by rw [chS_pos hc]; exact Pk.of_sub (List.Sublist.cons _ (List.Sublist.cons_cons _ (List.Sublist.cons _ (List.Sublist.cons _ (List.Sublist.cons_cons _ (List.Sublist.cons_cons _ (List.nil_sublist _)))))))⟩
      ·
        first | (have h2 := of_decide_eq_true h2) | (have h2 := of_decide_eq_false h2) | skip
        have h2 : (k : Int) + 1 = (l.getD k s0).e ∧ prevAt l k = (l.getD k s0).p := of_decide_eq_true (nbF h2)
        refine J_skip ?_
        change J _ _ _ _
        refine J_seq ?_
        refine J_region ?_
        refine L_v rfl rfl rfl (V_fieldAddr rfl rfl Tryd.underlying36 rfl sz25c rfl) ?_
        refine L_v rfl rfl rfl (V_loadP 6 (vs := hdL (l.getD k s0).e (l.getD k s0).r (l.getD k s0).p) rfl rfl rfl Tryd.underlying25 rfl (szd sz25c (by first | exact hdL_len (by first | assumption | exact shaP_len _ | exact sgn_len _ _ _ _ | exact macP_len _ _ | exact zd_length | exact Sg.hr _ | exact Sg.hp _ | exact Sg.hg _ | exact prevAt_len _ _ | rfl) (by first | assumption | exact shaP_len _ | exact sgn_len _ _ _ _ | exact macP_len _ _ | exact zd_length | exact Sg.hr _ | exact Sg.hp _ | exact Sg.hg _ | exact prevAt_len _ _ | rfl) | (rw [hdL_len (by first | assumption | exact shaP_len _ | exact sgn_len _ _ _ _ | exact macP_len _ _ | exact zd_length | exact Sg.hr _ | exact Sg.hp _ | exact Sg.hg _ | exact prevAt_len _ _ | rfl) (by first | assumption | exact shaP_len _ | exact sgn_len _ _ _ _ | exact macP_len _ _ | exact zd_length | exact Sg.hr _ | exact Sg.hp _ | exact Sg.hg _ | exact prevAt_len _ _ | rfl), hdL_len (by first | assumption | exact shaP_len _ | exact sgn_len _ _ _ _ | exact macP_len _ _ | exact zd_length | exact Sg.hr _ | exact Sg.hp _ | exact Sg.hg _ | exact prevAt_len _ _ | rfl) (by first | assumption | exact shaP_len _ | exact sgn_len _ _ _ _ | exact macP_len _ _ | exact zd_length | exact Sg.hr _ | exact Sg.hp _ | exact Sg.hg _ | exact prevAt_len _ _ | rfl)]))) (sg_hd (l.getD k s0).hr (l.getD k s0).hp)) ?_
        refine L_callV rfl rfl rfl rfl rfl rfl tx11c (fun w1 hw => hdig_ok (l.getD k s0).e (l.getD k s0).r (l.getD k s0).p w1 (l.getD k s0).hr (l.getD k s0).hp (l.getD k s0).hrb (l.getD k s0).hpb (chk_zero h1).2 (TabK.later hw (by simp) hK)) ?_
        refine L_v rfl rfl rfl (V_move rfl rfl) ?_
        refine L_v rfl rfl rfl (V_extract rfl rfl rfl) ?_
        refine L_v rfl rfl rfl (V_extract rfl rfl rfl) ?_
        refine L_alloc rfl rfl rfl rfl z23c (fun b7 => ?_)
        refine L_storeW 7 rfl rfl rfl rfl rfl rfl (szd sz23c (by first | (rw [dg_length]; exact (by first | assumption | exact shaP_len _ | exact sgn_len _ _ _ _ | exact macP_len _ _ | exact zd_length | exact Sg.hr _ | exact Sg.hp _ | exact Sg.hg _ | exact prevAt_len _ _ | rfl)) | exact (rfl : (dg zd).length = (dg zd).length) | (rw [dg_length, dg_length, show zd.length = 32 from rfl]; exact Eq.symm (by first | assumption | exact shaP_len _ | exact sgn_len _ _ _ _ | exact macP_len _ _ | exact zd_length | exact Sg.hr _ | exact Sg.hp _ | exact Sg.hg _ | exact prevAt_len _ _ | rfl)) | (rw [dg_length, dg_length, prevAt_len, shaP_len]))) (by first | exact sgL_one _ _ _ _ | exact hd_one _ _ _ | exact lkL_one _ _ | exact dg_one _) (by first | (rw [dg_length]; exact (by first | assumption | exact shaP_len _ | exact sgn_len _ _ _ _ | exact macP_len _ _ | exact zd_length | exact Sg.hr _ | exact Sg.hp _ | exact Sg.hg _ | exact prevAt_len _ _ | rfl)) | exact (rfl : (dg zd).length = (dg zd).length) | (rw [dg_length, dg_length, show zd.length = 32 from rfl]; exact Eq.symm (by first | assumption | exact shaP_len _ | exact sgn_len _ _ _ _ | exact macP_len _ _ | exact zd_length | exact Sg.hr _ | exact Sg.hp _ | exact Sg.hg _ | exact prevAt_len _ _ | rfl)) | (rw [dg_length, dg_length, prevAt_len, shaP_len])) ?_
        refine L_v rfl rfl rfl (V_assign rfl rfl) ?_
        refine L_nil ?_
        change J _ _ _ _
        refine J_region ?_
        refine L_v rfl rfl rfl (V_fieldAddr rfl rfl Tryd.underlying63 rfl sz3c rfl) ?_
        refine L_v rfl rfl rfl (V_load1 2 rfl rfl rfl Tryd.underlying3 rfl (by rfl)) ?_
        refine L_v rfl rfl rfl (V_add rfl rfl rfl (Go.IntWalk.i64_in _ (by omega))) ?_
        refine L_v rfl rfl rfl (V_loadW 7 rfl rfl rfl Tryd.underlying23 rfl (szd sz23c (by first | (rw [dg_length]; exact (by first | assumption | exact shaP_len _ | exact sgn_len _ _ _ _ | exact macP_len _ _ | exact zd_length | exact Sg.hr _ | exact Sg.hp _ | exact Sg.hg _ | exact prevAt_len _ _ | rfl)) | exact (rfl : (dg zd).length = (dg zd).length) | (rw [dg_length, dg_length, show zd.length = 32 from rfl]; exact Eq.symm (by first | assumption | exact shaP_len _ | exact sgn_len _ _ _ _ | exact macP_len _ _ | exact zd_length | exact Sg.hr _ | exact Sg.hp _ | exact Sg.hg _ | exact prevAt_len _ _ | rfl)) | (rw [dg_length, dg_length, prevAt_len, shaP_len])))) ?_
        refine L_v rfl rfl rfl (V_build (vs := [(0, .int .i64 ((k : Int) + 1 + 1)), (1, .agg (dg (dgP (l.getD k s0))).toArray)]) rfl rfl (bdK (shaP_len _))) ?_
        refine L_storeW 2 rfl rfl rfl rfl rfl rfl (szd sz63c (by first | exact lkL_len (by first | assumption | exact shaP_len _ | exact sgn_len _ _ _ _ | exact macP_len _ _ | exact zd_length | exact Sg.hr _ | exact Sg.hp _ | exact Sg.hg _ | exact prevAt_len _ _ | rfl) | (rw [lkL_len (by first | assumption | exact shaP_len _ | exact sgn_len _ _ _ _ | exact macP_len _ _ | exact zd_length | exact Sg.hr _ | exact Sg.hp _ | exact Sg.hg _ | exact prevAt_len _ _ | rfl), lkL_len (by first | assumption | exact shaP_len _ | exact sgn_len _ _ _ _ | exact macP_len _ _ | exact zd_length | exact Sg.hr _ | exact Sg.hp _ | exact Sg.hg _ | exact prevAt_len _ _ | rfl)]))) (by first | exact sgL_one _ _ _ _ | exact hd_one _ _ _ | exact lkL_one _ _ | exact dg_one _) (by first | exact lkL_len (by first | assumption | exact shaP_len _ | exact sgn_len _ _ _ _ | exact macP_len _ _ | exact zd_length | exact Sg.hr _ | exact Sg.hp _ | exact Sg.hg _ | exact prevAt_len _ _ | rfl) | (rw [lkL_len (by first | assumption | exact shaP_len _ | exact sgn_len _ _ _ _ | exact macP_len _ _ | exact zd_length | exact Sg.hr _ | exact Sg.hp _ | exact Sg.hg _ | exact prevAt_len _ _ | rfl), lkL_len (by first | assumption | exact shaP_len _ | exact sgn_len _ _ _ _ | exact macP_len _ _ | exact zd_length | exact Sg.hr _ | exact Sg.hp _ | exact Sg.hg _ | exact prevAt_len _ _ | rfl)])) ?_
        refine L_nil ?_
        have hc : chainN (codeAt s l) (k + 1) = 0 := by rw [chainN_go hP]; exact code_0 h1 h2
        exact ⟨rfl, 0, rfl, pk_eq ((chM_pos hc).trans chG_next) (Pk.of_sub (List.Sublist.cons_cons _ (List.Sublist.cons_cons _ (List.Sublist.cons_cons _ (List.Sublist.cons_cons _ (List.Sublist.cons_cons _ (List.Sublist.cons_cons _ (List.nil_sublist _))))))))⟩
  · rintro D z
    change J _ _ _ _
    refine J_nd fun hnd => ?_
    have hP := chM_nd (nd_app hnd)
    rw [chM_pos hP]
    change J _ _ _ _
    refine J_seq ?_
    refine J_region ?_
    refine L_store1 1 rfl rfl rfl rfl rfl rfl rfl sz27c (by first | exact Nat.zero_lt_succ _ | (simp only [dg_length, List.length_append, List.length_take, List.length_drop, zd_length]; omega) | omega) (by first | rfl | exact dg_set _ _ _) ?_
    refine L_nil ?_
    change J _ _ _ _
    refine J_ret ?_
    change KretM _ _ _ Exit.ret _
    refine KretM_mark 4 rfl rfl ?_
    refine ret1 rfl rfl (RV_c1 1 rfl rfl Tryd.underlying27 rfl rfl) ?_
    exact fun w' h => ⟨by rw [hl, hP], h.fr⟩
  · rintro D z
    refine J_nd fun hnd => ?_
    have hP := chS_nd (nd_app hnd)
    rw [chS_pos hP]
    refine J_ret ?_
    change KretM _ _ _ Exit.ret _
    refine KretM_mark 1 rfl rfl ?_
    refine ret1 rfl rfl (RV_c1 0 rfl rfl Tryd.underlying27 rfl rfl) ?_
    exact fun w' h => ⟨by rw [hP], h.fr⟩

theorem chain_w (s : ByteArray) (a : Option Addr) (n c : Nat) (l : List Sg) (w : World) (hl : l.length = n) (hu : SlC 97 w (.slice a n c) n (sgs l)) (hn : n ≤ 1048576) (hK : TabK KT 0 w) : Calls Tryd.prog 20 #[.string s, .slice a n c] w fun e w' => e = .returned (.int .i64 (chainP s l)) ∧ Fr [] w w' := by
  unfold chainP
  cases hk : okK s with
  | false => exact chain_noK s a n c l w hl hu hn hk
  | true => exact chain_ok s a n c l w hl hu hn hk hK

theorem rchain_noK (s : ByteArray) (a : Option Addr) (n c : Nat) (l : List Sg) (w : World) (hl : l.length = n) (hu : SlC 97 w (.slice a n c) n (sgs l)) (hn : n ≤ 1048576) (hk : okK s = false) :
    Calls Tryd.prog 22 #[.string s, .slice a n c] w fun e w' => e = .returned (.int .i64 (chainP s l)) ∧ Fr [] w w' := by
  refine calls_of (args := [.string s, .slice a n c]) ([]) ([]) ([]) Tryd.func22 rfl rfl (okW0 _ _ _ _) ?_
  refine J_seq ?_
  refine J_region ?_
  refine L_v rfl rfl rfl (V_assign rfl rfl) ?_
  refine L_nil ?_
  change J _ _ _ _
  refine J_seq ?_
  refine J_seq ?_
  refine J_region ?_
  refine L_v rfl rfl rfl (V_move rfl rfl) ?_
  refine L_callV rfl rfl rfl rfl rfl rfl tx32c (fun w1 _ => key_b hk w1) ?_
  refine L_v rfl rfl rfl (V_not rfl rfl rfl) ?_
  refine L_nil ?_
  change J _ _ _ _
  refine J_true rfl ?_
  refine J_seq ?_
  refine J_region ?_
  refine L_v rfl rfl rfl (V_assign rfl rfl) ?_
  refine L_nil ?_
  change J _ _ _ _
  refine J_ret ?_
  change Kret _ _ _ Exit.ret _
  refine ret1 rfl rfl (RV_t rfl) ?_
  have hc : chainP s l = 80 := by unfold chainP; rw [if_neg (by rw [hk]; decide)]
  exact fun w' h => ⟨by rw [hc], h.fr⟩

set_option maxHeartbeats 1000000 in
theorem rchain_ok (s : ByteArray) (a : Option Addr) (n c : Nat) (l : List Sg) (w : World) (hl : l.length = n) (hu : SlC 97 w (.slice a n c) n (sgs l)) (hn : n ≤ 1048576) (hk : okK s = true) (hR : TabK KT 1 w)  :
    Calls Tryd.prog 22 #[.string s, .slice a n c] w fun e w' => e = .returned (.int .i64 (chainP s l)) ∧ Fr [] w w' := by
  refine calls_of (args := [.string s, .slice a n c]) ([]) ([]) ([]) Tryd.func22 rfl rfl (okW0 _ _ _ _) ?_
  refine J_seq ?_
  refine J_region ?_
  refine L_v rfl rfl rfl (V_assign rfl rfl) ?_
  refine L_nil ?_
  change J _ _ _ _
  refine J_seq ?_
  refine J_seq ?_
  refine J_region ?_
  refine L_v rfl rfl rfl (V_move rfl rfl) ?_
  refine L_callV rfl rfl rfl rfl rfl rfl tx32c (fun w1 _ => key_b hk w1) ?_
  refine L_v rfl rfl rfl (V_not rfl rfl rfl) ?_
  refine L_nil ?_
  change J _ _ _ _
  refine J_false rfl ?_
  refine J_skip ?_
  change J _ _ _ _
  refine J_seq ?_
  refine J_region ?_
  refine L_v rfl rfl rfl (V_build (vs := []) rfl rfl bdD0) ?_
  refine L_alloc rfl rfl rfl rfl z23c (fun b0 => ?_)
  refine L_storeW 0 rfl rfl rfl rfl rfl rfl (szd sz23c (by first | (rw [dg_length]; exact (by first | assumption | exact shaP_len _ | exact sgn_len _ _ _ _ | exact macP_len _ _ | exact zd_length | exact Sg.hr _ | exact Sg.hp _ | exact Sg.hg _ | exact prevAt_len _ _ | rfl)) | exact (rfl : (dg zd).length = (dg zd).length) | (rw [dg_length, dg_length, show zd.length = 32 from rfl]; exact Eq.symm (by first | assumption | exact shaP_len _ | exact sgn_len _ _ _ _ | exact macP_len _ _ | exact zd_length | exact Sg.hr _ | exact Sg.hp _ | exact Sg.hg _ | exact prevAt_len _ _ | rfl)) | (rw [dg_length, dg_length, prevAt_len, shaP_len]))) (by first | exact sgL_one _ _ _ _ | exact hd_one _ _ _ | exact lkL_one _ _ | exact dg_one _) (by first | (rw [dg_length]; exact (by first | assumption | exact shaP_len _ | exact sgn_len _ _ _ _ | exact macP_len _ _ | exact zd_length | exact Sg.hr _ | exact Sg.hp _ | exact Sg.hg _ | exact prevAt_len _ _ | rfl)) | exact (rfl : (dg zd).length = (dg zd).length) | (rw [dg_length, dg_length, show zd.length = 32 from rfl]; exact Eq.symm (by first | assumption | exact shaP_len _ | exact sgn_len _ _ _ _ | exact macP_len _ _ | exact zd_length | exact Sg.hr _ | exact Sg.hp _ | exact Sg.hg _ | exact prevAt_len _ _ | rfl)) | (rw [dg_length, dg_length, prevAt_len, shaP_len])) ?_
  refine L_nil ?_
  change J _ _ _ _
  refine J_seq ?_
  refine J_seq ?_
  refine J_region ?_
  refine L_v rfl rfl rfl (V_assign rfl rfl) ?_
  refine L_nil ?_
  change J _ _ _ _
  refine J_block ?_
  refine J_loop (X := Nat) (fun i => { env := [(0, .string s), (1, .slice a n c), (5, .pointer (some ⟨b0, 0, none⟩)), (6, .int .i64 (i : Int))], mem := [(b0, row 23 (dg (prevAt l i)))] }) (fun i => i ≤ n ∧ chainN (codeAt s l) i = 0) (fun i => n - i) 0 ⟨Nat.zero_le _, rfl⟩ ⟨⟨rfl, rfl, rfl, rfl, trivial⟩, List.Sublist.refl _, fun f hf => hf, rfl⟩ ?_
  rintro i ⟨hi, hP⟩
  refine J_seq ?_
  refine J_seq ?_
  refine J_region ?_
  refine L_v rfl rfl rfl (V_move rfl rfl) ?_
  refine L_v rfl rfl rfl (V_move rfl rfl) ?_
  refine L_v rfl rfl rfl (V_len rfl rfl Tryd.underlying44 rfl) ?_
  refine L_v rfl rfl rfl (V_lss rfl rfl rfl (by first | exact decide_eq_true (by omega) | exact decide_eq_false (by omega) | rfl)) ?_
  refine L_nil ?_
  change J _ _ _ _
  refine J_cond rfl (fun h1 => ?_) (fun h1 => ?_)
  ·
    first | (have h1 := of_decide_eq_true h1) | (have h1 := of_decide_eq_false h1) | skip
    refine J_skip ?_
    change J _ _ _ _
    refine J_seq ?_
    refine J_block ?_
    refine J_seq ?_
    refine J_region ?_
    refine L_v rfl rfl rfl (V_move rfl rfl) ?_
    refine L_v rfl rfl rfl (V_move rfl rfl) ?_
    refine L_v rfl rfl rfl (V_move rfl rfl) ?_
    refine L_v rfl rfl rfl (V_indexC rfl rfl rfl Tryd.underlying44 sz36c (fun w hw => SlC.later hw rfl hu) (by omega) (by omega)) ?_
    refine L_v rfl rfl rfl (V_loadCN (vs := sgc (l.getD i s0)) rfl rfl Tryd.underlying36 rfl (szd sz36c (by first | exact sgc_len _ | (rw [sgc_len]; exact sgL_len zd_length zd_length zd_length) | (rw [sgc_len, sgL_len zd_length zd_length zd_length]) | exact sgL_len (by first | assumption | exact shaP_len _ | exact sgn_len _ _ _ _ | exact macP_len _ _ | exact zd_length | exact Sg.hr _ | exact Sg.hp _ | exact Sg.hg _ | exact prevAt_len _ _ | rfl) (by first | assumption | exact shaP_len _ | exact sgn_len _ _ _ _ | exact macP_len _ _ | exact zd_length | exact Sg.hr _ | exact Sg.hp _ | exact Sg.hg _ | exact prevAt_len _ _ | rfl) (by first | assumption | exact shaP_len _ | exact sgn_len _ _ _ _ | exact macP_len _ _ | exact zd_length | exact Sg.hr _ | exact Sg.hp _ | exact Sg.hg _ | exact prevAt_len _ _ | rfl) | (rw [sgL_len (by first | assumption | exact shaP_len _ | exact sgn_len _ _ _ _ | exact macP_len _ _ | exact zd_length | exact Sg.hr _ | exact Sg.hp _ | exact Sg.hg _ | exact prevAt_len _ _ | rfl) (by first | assumption | exact shaP_len _ | exact sgn_len _ _ _ _ | exact macP_len _ _ | exact zd_length | exact Sg.hr _ | exact Sg.hp _ | exact Sg.hg _ | exact prevAt_len _ _ | rfl) (by first | assumption | exact shaP_len _ | exact sgn_len _ _ _ _ | exact macP_len _ _ | exact zd_length | exact Sg.hr _ | exact Sg.hp _ | exact Sg.hg _ | exact prevAt_len _ _ | rfl), sgL_len (by first | assumption | exact shaP_len _ | exact sgn_len _ _ _ _ | exact macP_len _ _ | exact zd_length | exact Sg.hr _ | exact Sg.hp _ | exact Sg.hg _ | exact prevAt_len _ _ | rfl) (by first | assumption | exact shaP_len _ | exact sgn_len _ _ _ _ | exact macP_len _ _ | exact zd_length | exact Sg.hr _ | exact Sg.hp _ | exact Sg.hg _ | exact prevAt_len _ _ | rfl) (by first | assumption | exact shaP_len _ | exact sgn_len _ _ _ _ | exact macP_len _ _ | exact zd_length | exact Sg.hr _ | exact Sg.hp _ | exact Sg.hg _ | exact prevAt_len _ _ | rfl)]))) (fun w hw => SlC.later hw rfl hu) (by first | exact Nat.zero_lt_succ _ | (rw [dg_length, Sg.hp]; decide)) (sgs_v (by omega))) ?_
    refine L_callV rfl rfl rfl rfl rfl rfl tx18c (fun w1 hw => rchk_w s (l.getD i s0).e (l.getD i s0).r (l.getD i s0).p (l.getD i s0).g w1 (l.getD i s0).hr (l.getD i s0).hp (l.getD i s0).hg (l.getD i s0).hrb (l.getD i s0).hpb (l.getD i s0).hgb (TabK.later hw (by simp) hR)) ?_
    refine L_v rfl rfl rfl (V_assign rfl rfl) ?_
    refine L_nil ?_
    change J _ _ _ _
    refine J_seq ?_
    refine J_seq ?_
    refine J_region ?_
    refine L_v rfl rfl rfl (V_move rfl rfl) ?_
    refine L_v rfl rfl rfl (V_neq rfl rfl rfl (by first | exact decide_eq_true (by omega) | exact decide_eq_false (by omega) | rfl)) ?_
    refine L_nil ?_
    change J _ _ _ _
    refine J_cond rfl (fun h2 => ?_) (fun h2 => ?_)
    ·
      first | (have h2 := of_decide_eq_true h2) | (have h2 := of_decide_eq_false h2) | skip
      refine J_seq ?_
      refine J_region ?_
      refine L_v rfl rfl rfl (V_move rfl rfl) ?_
      refine L_v rfl rfl rfl (V_assign rfl rfl) ?_
      refine L_nil ?_
      change J _ _ _ _
      refine J_ret ?_
      change Kret _ _ _ Exit.ret _
      refine ret1 rfl rfl (RV_t rfl) ?_
      have h9 : codeAt s l i = chkS s (l.getD i s0) := code_chk h2
      have hc : chainP s l = chkS s (l.getD i s0) := by unfold chainP; rw [if_pos hk, chainN_hit (k := i) (by omega) hP (by rw [h9]; exact h2), h9]
      exact fun w' h => ⟨by rw [hc]; first | done | rfl, h.fr⟩
    ·
      first | (have h2 := of_decide_eq_true h2) | (have h2 := of_decide_eq_false h2) | skip
      have h2 : chkS s (l.getD i s0) = 0 := Classical.not_not.1 h2
      refine J_skip ?_
      change J _ _ _ _
      refine J_seq ?_
      refine J_seq ?_
      refine J_regionQ rfl (by kernel_rfl) ?_
      refine LQ_v rfl rfl rfl (V_move rfl rfl) ?_
      refine LQ_v rfl rfl rfl (V_move rfl rfl) ?_
      refine LQ_v rfl rfl rfl (V_indexC rfl rfl rfl Tryd.underlying44 sz36c (fun w hw => SlC.later hw rfl hu) (by omega) (by omega)) ?_
      refine LQ_v rfl rfl rfl (V_fieldC rfl rfl (fun w hw => (let ⟨b, o, e, _⟩ := SlC.cell (SlC.later hw rfl hu) (sgs_e (l := l) (i := i) (by omega)); ⟨b, o, e⟩)) Tryd.underlying36 rfl sz25c rfl) ?_
      refine LQ_v rfl rfl rfl (V_fieldC rfl rfl (fun w hw => (let ⟨b, o, e, _⟩ := SlC.cell (SlC.later hw rfl hu) (sgs_e (l := l) (i := i) (by omega)); ⟨b, o, e⟩)) Tryd.underlying25 rfl sz3c rfl) ?_
      refine LQ_v rfl rfl rfl (V_loadC rfl rfl Tryd.underlying3 rfl (fun w hw => SlC.later hw rfl hu) (sgs_e0 (by omega))) ?_
      refine LQ_v rfl rfl rfl (V_move rfl rfl) ?_
      refine LQ_v rfl rfl rfl (V_add rfl rfl rfl (Go.IntWalk.i64_in _ (by omega))) ?_
      refine LQ_v rfl rfl rfl (V_neq rfl rfl rfl (by first | exact decide_eq_true (by omega) | exact decide_eq_false (by omega) | rfl)) ?_
      refine LQ_v rfl rfl rfl (V_move rfl rfl) ?_
      refine LQ_split 38 rfl (fun h3 => ?_) (fun h3 => ?_)
      ·
        first | (have h3 := of_decide_eq_true h3) | (have h3 := of_decide_eq_false h3) | skip
        refine LQ_skip rfl rfl rfl rfl rfl rfl rfl ?_
        refine LQ_skip rfl rfl rfl rfl rfl rfl rfl ?_
        refine LQ_skip rfl rfl rfl rfl rfl rfl rfl ?_
        refine LQ_skip rfl rfl rfl rfl rfl rfl rfl ?_
        refine LQ_skip rfl rfl rfl rfl rfl rfl rfl ?_
        refine LQ_skip rfl rfl rfl rfl rfl rfl rfl ?_
        refine LQ_skip rfl rfl rfl rfl rfl rfl rfl ?_
        refine LQ_skip rfl rfl rfl rfl rfl rfl rfl ?_
        first | refine LQ_v rfl rfl rfl (V_pickT rfl rfl rfl) ?_ | refine LQ_v rfl rfl rfl (V_pickF rfl rfl rfl) ?_
        refine LQ_nil ?_
        change J _ _ _ _
        refine J_true rfl ?_
        refine J_seq ?_
        refine J_region ?_
        refine L_v rfl rfl rfl (V_assign rfl rfl) ?_
        refine L_nil ?_
        change J _ _ _ _
        refine J_ret ?_
        change Kret _ _ _ Exit.ret _
        refine ret1 rfl rfl (RV_t rfl) ?_
        have h9 : codeAt s l i = 82 := code_82 h2 (fun hh => h3 hh.1.symm)
        have hc : chainP s l = 82 := by unfold chainP; rw [if_pos hk, chainN_hit (k := i) (by omega) hP (by rw [h9]; decide), h9]
        exact fun w' h => ⟨by rw [hc]; first | done | rfl, h.fr⟩
      ·
        first | (have h3 := of_decide_eq_true h3) | (have h3 := of_decide_eq_false h3) | skip
        refine LQ_wv rfl rfl rfl rfl rfl rfl (V_move rfl rfl) ?_
        refine LQ_wv rfl rfl rfl rfl rfl rfl (V_move rfl rfl) ?_
        refine LQ_wv rfl rfl rfl rfl rfl rfl (V_indexC rfl rfl rfl Tryd.underlying44 sz36c (fun w hw => SlC.later hw rfl hu) (by omega) (by omega)) ?_
        refine LQ_wv rfl rfl rfl rfl rfl rfl (V_fieldC rfl rfl (fun w hw => (let ⟨b, o, e, _⟩ := SlC.cell (SlC.later hw rfl hu) (sgs_e (l := l) (i := i) (by omega)); ⟨b, o, e⟩)) Tryd.underlying36 rfl sz25c rfl) ?_
        refine LQ_wv rfl rfl rfl rfl rfl rfl (V_fieldC rfl rfl (fun w hw => (let ⟨b, o, e, _⟩ := SlC.cell (SlC.later hw rfl hu) (sgs_e (l := l) (i := i) (by omega)); ⟨b, o, e⟩)) Tryd.underlying25 rfl sz23c rfl) ?_
        refine LQ_wv rfl rfl rfl rfl rfl rfl (V_loadCN (vs := dg (l.getD i s0).p) rfl rfl Tryd.underlying23 rfl (szd sz23c (by first | (rw [dg_length]; exact (by first | assumption | exact shaP_len _ | exact sgn_len _ _ _ _ | exact macP_len _ _ | exact zd_length | exact Sg.hr _ | exact Sg.hp _ | exact Sg.hg _ | exact prevAt_len _ _ | rfl)) | exact (rfl : (dg zd).length = (dg zd).length) | (rw [dg_length, dg_length, show zd.length = 32 from rfl]; exact Eq.symm (by first | assumption | exact shaP_len _ | exact sgn_len _ _ _ _ | exact macP_len _ _ | exact zd_length | exact Sg.hr _ | exact Sg.hp _ | exact Sg.hg _ | exact prevAt_len _ _ | rfl)) | (rw [dg_length, dg_length, prevAt_len, shaP_len]))) (fun w hw => SlC.later hw rfl hu) (by first | exact Nat.zero_lt_succ _ | (rw [dg_length, Sg.hp]; decide)) (sgs_p (by omega))) ?_
        refine LQ_wv rfl rfl rfl rfl rfl rfl (V_loadW 0 rfl rfl rfl Tryd.underlying23 rfl (szd sz23c (by first | (rw [dg_length]; exact (by first | assumption | exact shaP_len _ | exact sgn_len _ _ _ _ | exact macP_len _ _ | exact zd_length | exact Sg.hr _ | exact Sg.hp _ | exact Sg.hg _ | exact prevAt_len _ _ | rfl)) | exact (rfl : (dg zd).length = (dg zd).length) | (rw [dg_length, dg_length, show zd.length = 32 from rfl]; exact Eq.symm (by first | assumption | exact shaP_len _ | exact sgn_len _ _ _ _ | exact macP_len _ _ | exact zd_length | exact Sg.hr _ | exact Sg.hp _ | exact Sg.hg _ | exact prevAt_len _ _ | rfl)) | (rw [dg_length, dg_length, prevAt_len, shaP_len])))) ?_
        refine LQ_wv rfl rfl rfl rfl rfl rfl (V_neD rfl rfl rfl egD9 Tryd.underlying23 Tryd.underlying5 sz5c (Sg.hp _) (prevAt_len _ _) rfl) ?_
        first | refine LQ_v rfl rfl rfl (V_pickT rfl rfl rfl) ?_ | refine LQ_v rfl rfl rfl (V_pickF rfl rfl rfl) ?_
        refine LQ_nil ?_
        change J _ _ _ _
        refine J_cond rfl (fun h4 => ?_) (fun h4 => ?_)
        ·
          first | (have h4 := of_decide_eq_true h4) | (have h4 := of_decide_eq_false h4) | skip
          refine J_seq ?_
          refine J_region ?_
          refine L_v rfl rfl rfl (V_assign rfl rfl) ?_
          refine L_nil ?_
          change J _ _ _ _
          refine J_ret ?_
          change Kret _ _ _ Exit.ret _
          refine ret1 rfl rfl (RV_t rfl) ?_
          have h9 : codeAt s l i = 82 := code_82 h2 (fun hh => h4 hh.2.symm)
          have hc : chainP s l = 82 := by unfold chainP; rw [if_pos hk, chainN_hit (k := i) (by omega) hP (by rw [h9]; decide), h9]
          exact fun w' h => ⟨by rw [hc]; first | done | rfl, h.fr⟩
        ·
          first | (have h4 := of_decide_eq_true h4) | (have h4 := of_decide_eq_false h4) | skip
          have h5 : (i : Int) + 1 = (l.getD i s0).e ∧ prevAt l i = (l.getD i s0).p := ⟨(Classical.not_not.1 h3).symm, (Classical.not_not.1 h4).symm⟩
          refine J_skip ?_
          change J _ _ _ _
          refine J_seq ?_
          refine J_region ?_
          refine L_v rfl rfl rfl (V_move rfl rfl) ?_
          refine L_v rfl rfl rfl (V_move rfl rfl) ?_
          refine L_v rfl rfl rfl (V_indexC rfl rfl rfl Tryd.underlying44 sz36c (fun w hw => SlC.later hw rfl hu) (by omega) (by omega)) ?_
          refine L_v rfl rfl rfl (V_fieldC rfl rfl (fun w hw => (let ⟨b, o, e, _⟩ := SlC.cell (SlC.later hw rfl hu) (sgs_e (l := l) (i := i) (by omega)); ⟨b, o, e⟩)) Tryd.underlying36 rfl sz25c rfl) ?_
          refine L_v rfl rfl rfl (V_loadCN (vs := hdL (l.getD i s0).e (l.getD i s0).r (l.getD i s0).p) rfl rfl Tryd.underlying25 rfl (szd sz25c (by first | exact hdL_len (by first | assumption | exact shaP_len _ | exact sgn_len _ _ _ _ | exact macP_len _ _ | exact zd_length | exact Sg.hr _ | exact Sg.hp _ | exact Sg.hg _ | exact prevAt_len _ _ | rfl) (by first | assumption | exact shaP_len _ | exact sgn_len _ _ _ _ | exact macP_len _ _ | exact zd_length | exact Sg.hr _ | exact Sg.hp _ | exact Sg.hg _ | exact prevAt_len _ _ | rfl) | (rw [hdL_len (by first | assumption | exact shaP_len _ | exact sgn_len _ _ _ _ | exact macP_len _ _ | exact zd_length | exact Sg.hr _ | exact Sg.hp _ | exact Sg.hg _ | exact prevAt_len _ _ | rfl) (by first | assumption | exact shaP_len _ | exact sgn_len _ _ _ _ | exact macP_len _ _ | exact zd_length | exact Sg.hr _ | exact Sg.hp _ | exact Sg.hg _ | exact prevAt_len _ _ | rfl), hdL_len (by first | assumption | exact shaP_len _ | exact sgn_len _ _ _ _ | exact macP_len _ _ | exact zd_length | exact Sg.hr _ | exact Sg.hp _ | exact Sg.hg _ | exact prevAt_len _ _ | rfl) (by first | assumption | exact shaP_len _ | exact sgn_len _ _ _ _ | exact macP_len _ _ | exact zd_length | exact Sg.hr _ | exact Sg.hp _ | exact Sg.hg _ | exact prevAt_len _ _ | rfl)]))) (fun w hw => SlC.later hw rfl hu) (by first | exact Nat.zero_lt_succ _ | (rw [dg_length, Sg.hp]; decide)) (sgs_h (by omega))) ?_
          refine L_callV rfl rfl rfl rfl rfl rfl tx39c (fun w1 hw => rhdig_ok (l.getD i s0).e (l.getD i s0).r (l.getD i s0).p w1 (l.getD i s0).hr (l.getD i s0).hp (l.getD i s0).hrb (l.getD i s0).hpb (chk_zero h2).2 (TabK.later hw (by simp) hR)) ?_
          refine L_v rfl rfl rfl (V_move rfl rfl) ?_
          refine L_v rfl rfl rfl (V_extract rfl rfl rfl) ?_
          refine L_v rfl rfl rfl (V_extract rfl rfl rfl) ?_
          refine L_alloc rfl rfl rfl rfl z23c (fun b1 => ?_)
          refine L_storeW 1 rfl rfl rfl rfl rfl rfl (szd sz23c (by first | (rw [dg_length]; exact (by first | assumption | exact shaP_len _ | exact sgn_len _ _ _ _ | exact macP_len _ _ | exact zd_length | exact Sg.hr _ | exact Sg.hp _ | exact Sg.hg _ | exact prevAt_len _ _ | rfl)) | exact (rfl : (dg zd).length = (dg zd).length) | (rw [dg_length, dg_length, show zd.length = 32 from rfl]; exact Eq.symm (by first | assumption | exact shaP_len _ | exact sgn_len _ _ _ _ | exact macP_len _ _ | exact zd_length | exact Sg.hr _ | exact Sg.hp _ | exact Sg.hg _ | exact prevAt_len _ _ | rfl)) | (rw [dg_length, dg_length, prevAt_len, shaP_len]))) (by first | exact sgL_one _ _ _ _ | exact hd_one _ _ _ | exact lkL_one _ _ | exact dg_one _) (by first | (rw [dg_length]; exact (by first | assumption | exact shaP_len _ | exact sgn_len _ _ _ _ | exact macP_len _ _ | exact zd_length | exact Sg.hr _ | exact Sg.hp _ | exact Sg.hg _ | exact prevAt_len _ _ | rfl)) | exact (rfl : (dg zd).length = (dg zd).length) | (rw [dg_length, dg_length, show zd.length = 32 from rfl]; exact Eq.symm (by first | assumption | exact shaP_len _ | exact sgn_len _ _ _ _ | exact macP_len _ _ | exact zd_length | exact Sg.hr _ | exact Sg.hp _ | exact Sg.hg _ | exact prevAt_len _ _ | rfl)) | (rw [dg_length, dg_length, prevAt_len, shaP_len])) ?_
          refine L_v rfl rfl rfl (V_assign rfl rfl) ?_
          refine L_nil ?_
          change J _ _ _ _
          refine J_region ?_
          refine L_v rfl rfl rfl (V_loadW 1 rfl rfl rfl Tryd.underlying23 rfl (szd sz23c (by first | (rw [dg_length]; exact (by first | assumption | exact shaP_len _ | exact sgn_len _ _ _ _ | exact macP_len _ _ | exact zd_length | exact Sg.hr _ | exact Sg.hp _ | exact Sg.hg _ | exact prevAt_len _ _ | rfl)) | exact (rfl : (dg zd).length = (dg zd).length) | (rw [dg_length, dg_length, show zd.length = 32 from rfl]; exact Eq.symm (by first | assumption | exact shaP_len _ | exact sgn_len _ _ _ _ | exact macP_len _ _ | exact zd_length | exact Sg.hr _ | exact Sg.hp _ | exact Sg.hg _ | exact prevAt_len _ _ | rfl)) | (rw [dg_length, dg_length, prevAt_len, shaP_len])))) ?_
          refine L_storeW 0 rfl rfl rfl rfl rfl rfl (szd sz23c (by first | (rw [dg_length]; exact (by first | assumption | exact shaP_len _ | exact sgn_len _ _ _ _ | exact macP_len _ _ | exact zd_length | exact Sg.hr _ | exact Sg.hp _ | exact Sg.hg _ | exact prevAt_len _ _ | rfl)) | exact (rfl : (dg zd).length = (dg zd).length) | (rw [dg_length, dg_length, show zd.length = 32 from rfl]; exact Eq.symm (by first | assumption | exact shaP_len _ | exact sgn_len _ _ _ _ | exact macP_len _ _ | exact zd_length | exact Sg.hr _ | exact Sg.hp _ | exact Sg.hg _ | exact prevAt_len _ _ | rfl)) | (rw [dg_length, dg_length, prevAt_len, shaP_len]))) (by first | exact sgL_one _ _ _ _ | exact hd_one _ _ _ | exact lkL_one _ _ | exact dg_one _) (by first | (rw [dg_length]; exact (by first | assumption | exact shaP_len _ | exact sgn_len _ _ _ _ | exact macP_len _ _ | exact zd_length | exact Sg.hr _ | exact Sg.hp _ | exact Sg.hg _ | exact prevAt_len _ _ | rfl)) | exact (rfl : (dg zd).length = (dg zd).length) | (rw [dg_length, dg_length, show zd.length = 32 from rfl]; exact Eq.symm (by first | assumption | exact shaP_len _ | exact sgn_len _ _ _ _ | exact macP_len _ _ | exact zd_length | exact Sg.hr _ | exact Sg.hp _ | exact Sg.hg _ | exact prevAt_len _ _ | rfl)) | (rw [dg_length, dg_length, prevAt_len, shaP_len])) ?_
          refine L_nil ?_
          change J _ _ _ _
          refine J_region ?_
          refine L_v rfl rfl rfl (V_move rfl rfl) ?_
          refine L_v rfl rfl rfl (V_add rfl rfl rfl (by first | exact Go.IntWalk.i64_in _ (by omega) | rfl)) ?_
          refine L_v rfl rfl rfl (V_assign rfl rfl) ?_
          refine L_nil ?_
          exact ⟨i + 1, ⟨by omega, by rw [chainN_go hP]; exact code_0 h2 h5⟩, by omega, ⟨rfl, rfl, rfl, rfl, trivial⟩, List.Sublist.cons_cons _ (List.nil_sublist _), fun f hf => hf, rfl⟩
  ·
    first | (have h1 := of_decide_eq_true h1) | (have h1 := of_decide_eq_false h1) | skip
    refine J_exit ?_
    change J _ _ _ _
    refine J_seq ?_
    refine J_region ?_
    refine L_v rfl rfl rfl (V_assign rfl rfl) ?_
    refine L_nil ?_
    change J _ _ _ _
    refine J_ret ?_
    change Kret _ _ _ Exit.ret _
    refine ret1 rfl rfl (RV_t rfl) ?_
    have hc : chainP s l = 0 := by unfold chainP; rw [if_pos hk, hl, show n = i by omega, hP]
    exact fun w' h => ⟨by rw [hc], h.fr⟩

theorem rchain_w (s : ByteArray) (a : Option Addr) (n c : Nat) (l : List Sg) (w : World) (hl : l.length = n) (hu : SlC 97 w (.slice a n c) n (sgs l)) (hn : n ≤ 1048576) (hR : TabK KT 1 w) : Calls Tryd.prog 22 #[.string s, .slice a n c] w fun e w' => e = .returned (.int .i64 (chainP s l)) ∧ Fr [] w w' := by
  cases hk : okK s with
  | false => exact rchain_noK s a n c l w hl hu hn hk
  | true => exact rchain_ok s a n c l w hl hu hn hk hR

end Go.Proofs.YtbckeoidnpfbnaaDoor
