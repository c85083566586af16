/- A history's digest; the reference's bytes; what the law comes to. -/
import Derived.Test.YthafhiemecfjiaaDoorVersion6
import Derived.Test.YthafhiemecfjiaaDoorSha4
set_option linter.unusedVariables false
set_option linter.unusedSimpArgs false
set_option maxRecDepth 100000
namespace Go.Proofs.YthafhiemecfjiaaDoor
open Go.Sx
theorem bdD0 (w : World) : (Instr.build 28 ([] : List (Nat × Value)).toArray).run Tryd.prog w = .ok (.agg (dg zd).toArray) w := by kernel_rfl
theorem egD7 : Tryd.prog.eqGuardType Tryd.prog.depth 28 = false := by kernel_rfl
theorem encL_byt : ∀ (l : List Ver), (∀ v ∈ l, mayV v = true) → Byt (encL l)
  | [], _ => by intro x hx; cases hx
  | v :: l, h => by
    have h1 := encL_byt l (fun x hx => h x (List.mem_cons_of_mem _ hx))
    have h2 := h v (List.mem_cons_self ..)
    have h3 := mayV_ep h2
    have h4 := mayV_kind h2
    have h5 := mayV_key h2
    have e : encL (v :: l) = encV v ++ encL l := by simp [encL]
    rw [e]
    refine Byt.append ?_ h1
    unfold encV
    exact ((grp_byt (by omega) (by omega)).append (grp_byt (by omega) (by omega))).append ((grp_byt (by omega) (by omega)).append (bs_byt _))
theorem putB_byt {l : List Ver} (h : isH l = true) : Byt (putB l) := by
  have h1 := isH_len h
  unfold putB
  exact (grp_byt (by omega) (by omega)).append (encL_byt l (fromV_may (isH_from h)))
theorem putB_len {l : List Ver} (h : isH l = true) : (putB l).length ≤ 2000 := by
  rw [← putI_all]
  exact putI_len h _
theorem refB_e {s : ByteArray} (w : World) (h : s.size ≤ 65536) : Calls Tryd.prog 31 #[.string s] w (RetB 5 w (grp s.size ++ bs s) (grp s.size ++ bs s).length (fun s => .tuple #[s, .int .i64 0])) := refB_ok s w h
theorem sz3c : (Tryd.prog.info? 3).map (·.size) = some 1 := by kernel_rfl
theorem sz5c : (Tryd.prog.info? 5).map (·.size) = some 1 := by kernel_rfl
theorem sz9c : (Tryd.prog.info? 9).map (·.size) = some 1 := by kernel_rfl
theorem sz28c : (Tryd.prog.info? 28).map (·.size) = some 32 := by kernel_rfl
theorem sz42c : (Tryd.prog.info? 42).map (·.size) = some 1 := by kernel_rfl
theorem sz44c : (Tryd.prog.info? 44).map (·.size) = some 3 := by kernel_rfl
theorem tx4c : Txt Tryd.prog 4 := txt_of Tryd.func4 rfl (by kernel_rfl)
theorem tx5c : Txt Tryd.prog 5 := txt_of Tryd.func5 rfl (by kernel_rfl)
theorem tx6c : Txt Tryd.prog 6 := txt_of Tryd.func6 rfl (by kernel_rfl)
theorem tx7c : Txt Tryd.prog 7 := txt_of Tryd.func7 rfl (by kernel_rfl)
theorem tx8c : Txt Tryd.prog 8 := txt_of Tryd.func8 rfl (by kernel_rfl)
theorem tx9c : Txt Tryd.prog 9 := txt_of Tryd.func9 rfl (by kernel_rfl)
theorem tx10c : Txt Tryd.prog 10 := txt_of Tryd.func10 rfl (by kernel_rfl)
theorem tx14c : Txt Tryd.prog 14 := txt_of Tryd.func14 rfl (by kernel_rfl)
theorem tx15c : Txt Tryd.prog 15 := txt_of Tryd.func15 rfl (by kernel_rfl)
theorem tx30c : Txt Tryd.prog 30 := txt_of Tryd.func30 rfl (by kernel_rfl)
theorem tx31c : Txt Tryd.prog 31 := txt_of Tryd.func31 rfl (by kernel_rfl)
theorem z28c : (Tryd.prog.info? 28).bind (·.zero) = some (.agg (dg zd).toArray) := by kernel_rfl

theorem rbytesV_w (a : Option Addr) (n c0 : Nat) (l : List Ver) (w : World) (hl : l.length = n) (hu : SlC 3 w (.slice a n c0) n (vcs l)) (hn : n ≤ 1048576) (hcn : n ≤ c0) (h : isH l = true) :
    Calls Tryd.prog 15 #[.slice a n c0] w fun e w' => RetB 5 w (putB l) (putB l).length id e w' := by
  have hlen := isH_len h
  refine calls_of (args := [.slice a n c0]) ([]) ([]) ([]) Tryd.func15 rfl rfl (okW0 _ _ _ _) ?_
  refine J_seq ?_
  refine J_region ?_
  refine L_v rfl rfl rfl (V_assign rfl rfl) ?_
  refine L_nil ?_
  change J _ _ _ _
  refine J_seq ?_
  refine J_region ?_
  refine L_v rfl rfl rfl (V_move rfl rfl) ?_
  refine L_v rfl rfl rfl (V_len rfl rfl Tryd.underlying22 rfl) ?_
  refine L_callB rfl rfl rfl rfl rfl rfl tx30c (fun w _ => grp_w n w (by omega) (by omega)) (fun g1 r1 c1 hl1 hc1 hr1 => ?_)
  refine L_v rfl rfl rfl (V_assign rfl rfl) ?_
  refine L_nil ?_
  change J _ _ _ _
  refine J_seq ?_
  refine J_seq ?_
  refine J_region ?_
  refine L_v rfl rfl rfl (V_assign rfl rfl) ?_
  refine L_nil ?_
  change J _ _ _ _
  refine J_block ?_
  have e0 : grp (n : Int) = putI l 0 := by rw [← hl]; exact putI_0 l
  refine J_loop (X := Nat × Nat × Nat × List Value) (fun x => { env := [(0, .slice a n c0), (3, .slice (some ⟨x.2.1, 0, none⟩) (putI l x.1).length x.2.2.1), (4, .int .i64 (x.1 : Int))], mem := [(x.2.1, row 5 (dg (putI l x.1) ++ x.2.2.2))] }) (fun x => x.1 ≤ n ∧ (putI l x.1).length ≤ x.2.2.1 ∧ x.2.2.2.length = x.2.2.1 - (putI l x.1).length) (fun x => n - x.1) (0, g1, c1, r1) ⟨Nat.zero_le _, by rw [← e0]; exact hc1, by rw [← e0]; exact hr1⟩ (by rw [e0]; exact ⟨⟨rfl, rfl, rfl, trivial⟩, List.Sublist.refl _, fun f hf => hf, rfl⟩) ?_
  rintro ⟨i, g, c, r⟩ ⟨hi, hc, hr⟩
  simp only at hi hc hr ⊢
  refine J_seq ?_
  refine J_seq ?_
  refine J_region ?_
  refine L_v rfl rfl rfl (V_move rfl rfl) ?_
  refine L_v rfl rfl rfl (V_move rfl rfl) ?_
  refine L_v rfl rfl rfl (V_len rfl rfl Tryd.underlying22 rfl) ?_
  refine L_v rfl rfl rfl (V_lss rfl rfl rfl (by first | exact decide_eq_true (by omega) | exact decide_eq_false (by omega) | rfl)) ?_
  refine L_nil ?_
  change J _ _ _ _
  refine J_cond rfl (fun h1 => ?_) (fun h1 => ?_)
  ·
    first | (have h1 := h1; rw [decide_eq_true_eq] at h1) | (have h1 := h1; rw [decide_eq_false_iff_not] at h1) | skip
    have hpl := putI_len h i
    have hmv := fromV_may (isH_from h) (l.getD i v0) (by rw [List.getD_eq_getElem?_getD, List.getElem?_eq_getElem (show i < l.length by omega)]; exact List.getElem_mem _)
    have hep := mayV_ep hmv
    have hkd := mayV_kind hmv
    have hky := mayV_key hmv
    have hg1 := grp_len (l.getD i v0).1
    have hg2 := grp_len (l.getD i v0).2.1
    have hla : (putI l i ++ grp (l.getD i v0).1).length = (putI l i).length + (grp (l.getD i v0).1).length := List.length_append
    have hlb : ((putI l i ++ grp (l.getD i v0).1) ++ grp (l.getD i v0).2.1).length = (putI l i).length + (grp (l.getD i v0).1).length + (grp (l.getD i v0).2.1).length := by rw [List.length_append, List.length_append]
    have hne : ((putI l i ++ grp (l.getD i v0).1) ++ grp (l.getD i v0).2.1).length + (grp (l.getD i v0).2.2.size ++ bs (l.getD i v0).2.2).length = (putI l (i + 1)).length := by rw [← putI_next (l := l) (i := i) (by omega)]; exact List.length_append.symm
    have hnx := putI_len h (i + 1)
    refine J_skip ?_
    change J _ _ _ _
    refine J_seq ?_
    refine J_block ?_
    refine J_seq ?_
    refine J_region ?_
    refine L_v rfl rfl rfl (V_move rfl rfl) ?_
    refine L_v rfl rfl rfl (V_move rfl rfl) ?_
    refine L_v rfl rfl rfl (V_indexC rfl rfl rfl Tryd.underlying22 sz44c (fun w hw => SlC.later hw rfl hu) (by omega) (by omega)) ?_
    refine L_v rfl rfl rfl (V_fieldC rfl rfl (fun w hw => (let ⟨b, o, e, _⟩ := SlC.cell (SlC.later hw rfl hu) (vcs_e (l := l) (i := i) (by omega)); ⟨b, o, e⟩)) Tryd.underlying44 rfl sz3c rfl) ?_
    refine L_v rfl rfl rfl (V_loadC rfl rfl Tryd.underlying3 rfl (fun w hw => SlC.later hw rfl hu) (vcs_e (by omega))) ?_
    refine L_callB rfl rfl rfl rfl rfl rfl tx30c (fun w _ => grp_w (l.getD i v0).1 w (by omega) (by omega)) (fun g2 r2 c2 hl2 hc2 hr2 => ?_)
    refine L_v rfl rfl rfl (V_assign rfl rfl) ?_
    refine L_nil ?_
    change J _ _ _ _
    refine J_seq ?_
    refine J_region ?_
    refine L_v rfl rfl rfl (V_move rfl rfl) ?_
    refine L_v rfl rfl rfl (V_move rfl rfl) ?_
    refine L_appO 0 (dg (putI l i)) r (n := (putI l i).length) (m := (grp (l.getD i v0).1).length) (n' := (putI l i ++ grp (l.getD i v0).1).length) (ks' := dg (putI l i ++ grp (l.getD i v0).1)) rfl rfl rfl rfl rfl Tryd.underlying23 el rfl (by rw [dg_length, Nat.mul_one]) (by rw [Nat.mul_one]; exact hr) hc (fun w hw => src_bytes' Tryd.underlying23 (SlB.of_own hw (i := 1) rfl hl2 _) hl2) (by first | exact List.length_append.symm | exact hne) (dg_append _ _).symm (by omega) (by omega) (fun g3 c3 r3 hc3 hr3' => ?_)
    have hr3 : r3.length = c3 - (putI l i ++ grp (l.getD i v0).1).length := by simpa using hr3'
    refine L_v rfl rfl rfl (V_assign rfl rfl) ?_
    refine L_nil ?_
    change J _ _ _ _
    refine J_seq ?_
    refine J_region ?_
    refine L_v rfl rfl rfl (V_move rfl rfl) ?_
    refine L_v rfl rfl rfl (V_move rfl rfl) ?_
    refine L_v rfl rfl rfl (V_indexC rfl rfl rfl Tryd.underlying22 sz44c (fun w hw => SlC.later hw rfl hu) (by omega) (by omega)) ?_
    refine L_v rfl rfl rfl (V_fieldC rfl rfl (fun w hw => (let ⟨b, o, e, _⟩ := SlC.cell (SlC.later hw rfl hu) (vcs_e (l := l) (i := i) (by omega)); ⟨b, o, e⟩)) Tryd.underlying44 rfl sz42c rfl) ?_
    refine L_v rfl rfl rfl (V_loadC rfl rfl Tryd.underlying42 rfl (fun w hw => SlC.later hw rfl hu) (vcs_k (by omega))) ?_
    refine L_callB rfl rfl rfl rfl rfl rfl tx30c (fun w _ => grp_w (l.getD i v0).2.1 w (by omega) (by omega)) (fun g4 r4 c4 hl4 hc4 hr4 => ?_)
    refine L_v rfl rfl rfl (V_assign rfl rfl) ?_
    refine L_nil ?_
    change J _ _ _ _
    refine J_seq ?_
    refine J_region ?_
    refine L_v rfl rfl rfl (V_move rfl rfl) ?_
    refine L_v rfl rfl rfl (V_move rfl rfl) ?_
    refine L_appO 0 (dg (putI l i ++ grp (l.getD i v0).1)) r3 (n := (putI l i ++ grp (l.getD i v0).1).length) (m := (grp (l.getD i v0).2.1).length) (n' := ((putI l i ++ grp (l.getD i v0).1) ++ grp (l.getD i v0).2.1).length) (ks' := dg ((putI l i ++ grp (l.getD i v0).1) ++ grp (l.getD i v0).2.1)) rfl rfl rfl rfl rfl Tryd.underlying23 el rfl (by rw [dg_length, Nat.mul_one]) (by rw [Nat.mul_one]; exact hr3) hc3 (fun w hw => src_bytes' Tryd.underlying23 (SlB.of_own hw (i := 2) rfl hl4 _) hl4) (by first | exact List.length_append.symm | exact hne) (dg_append _ _).symm (by omega) (by omega) (fun g5 c5 r5 hc5 hr5' => ?_)
    have hr5 : r5.length = c5 - ((putI l i ++ grp (l.getD i v0).1) ++ grp (l.getD i v0).2.1).length := by simpa using hr5'
    refine L_v rfl rfl rfl (V_assign rfl rfl) ?_
    refine L_nil ?_
    change J _ _ _ _
    refine J_seq ?_
    refine J_region ?_
    refine L_v rfl rfl rfl (V_move rfl rfl) ?_
    refine L_v rfl rfl rfl (V_move rfl rfl) ?_
    refine L_v rfl rfl rfl (V_indexC rfl rfl rfl Tryd.underlying22 sz44c (fun w hw => SlC.later hw rfl hu) (by omega) (by omega)) ?_
    refine L_v rfl rfl rfl (V_fieldC rfl rfl (fun w hw => (let ⟨b, o, e, _⟩ := SlC.cell (SlC.later hw rfl hu) (vcs_e (l := l) (i := i) (by omega)); ⟨b, o, e⟩)) Tryd.underlying44 rfl sz9c rfl) ?_
    refine L_v rfl rfl rfl (V_loadC rfl rfl Tryd.underlying9 rfl (fun w hw => SlC.later hw rfl hu) (vcs_s (by omega))) ?_
    refine L_callB rfl rfl rfl rfl rfl rfl tx31c (fun w _ => refB_e w (by omega)) (fun g6 r6 c6 hl6 hc6 hr6 => ?_)
    refine L_v rfl rfl rfl (V_move rfl rfl) ?_
    refine L_v rfl rfl rfl (V_extract rfl rfl rfl) ?_
    refine L_v rfl rfl rfl (V_extract rfl rfl rfl) ?_
    refine L_v rfl rfl rfl (V_assign rfl rfl) ?_
    refine L_v rfl rfl rfl (V_assign rfl rfl) ?_
    refine L_nil ?_
    change J _ _ _ _
    refine J_region ?_
    refine L_v rfl rfl rfl (V_move rfl rfl) ?_
    refine L_v rfl rfl rfl (V_move rfl rfl) ?_
    refine L_appO 0 (dg ((putI l i ++ grp (l.getD i v0).1) ++ grp (l.getD i v0).2.1)) r5 (n := ((putI l i ++ grp (l.getD i v0).1) ++ grp (l.getD i v0).2.1).length) (m := (grp (l.getD i v0).2.2.size ++ bs (l.getD i v0).2.2).length) (n' := (putI l (i + 1)).length) (ks' := dg (putI l (i + 1))) rfl rfl rfl rfl rfl Tryd.underlying23 el rfl (by rw [dg_length, Nat.mul_one]) (by rw [Nat.mul_one]; exact hr5) hc5 (fun w hw => src_bytes' Tryd.underlying23 (SlB.of_own hw (i := 3) rfl hl6 _) hl6) (by first | exact List.length_append.symm | exact hne) (by rw [← dg_append, putI_next (l := l) (i := i) (by omega)]) (by omega) (by omega) (fun g7 c7 r7 hc7 hr7' => ?_)
    have hr7 : r7.length = c7 - (putI l (i + 1)).length := by simpa using hr7'
    refine L_v rfl rfl rfl (V_assign rfl rfl) ?_
    refine L_nil ?_
    change J _ _ _ _
    refine J_region ?_
    refine L_v rfl rfl rfl (V_move rfl rfl) ?_
    refine L_v rfl rfl rfl (V_add rfl rfl rfl (by first | exact Go.IntWalk.i64_in _ (by omega) | rfl)) ?_
    refine L_v rfl rfl rfl (V_assign rfl rfl) ?_
    refine L_nil ?_
    exact ⟨(i + 1, g7, c7, r7), ⟨by show i + 1 ≤ n; omega, hc7, hr7⟩, by show n - (i + 1) < n - i; omega, ⟨rfl, rfl, rfl, trivial⟩, List.Sublist.cons_cons _ (List.nil_sublist _), fun f hf => hf, rfl⟩
  ·
    first | (have h1 := h1; rw [decide_eq_true_eq] at h1) | (have h1 := h1; rw [decide_eq_false_iff_not] at h1) | skip
    have e9 : putI l i = putB l := by rw [show i = l.length by omega, putI_all]
    refine J_exit ?_
    change J _ _ _ _
    refine J_seq ?_
    refine J_region ?_
    refine L_v rfl rfl rfl (V_move rfl rfl) ?_
    refine L_v rfl rfl rfl (V_assign rfl rfl) ?_
    refine L_nil ?_
    change J _ _ _ _
    refine J_ret ?_
    change Kret _ _ _ Exit.ret _
    refine ret1 rfl rfl (RV_t rfl) ?_
    rw [← e9]
    exact fun w' h => RetB.of (l := putI l i) h rfl 0 rfl rfl rfl hc hr

theorem rput_no (a : Option Addr) (n c : Nat) (l : List Ver) (w : World) (hl : l.length = n) (hu : SlC 3 w (.slice a n c) n (vcs l)) (hn : n ≤ 1048576) (hcn : n ≤ c) (h : isH l = false) :
    Calls Tryd.prog 5 #[.slice a n c] w fun e w' => e = .returned (.tuple #[.slice none 0 0, .int .i64 50]) ∧ Fr [] w w' := by
  refine calls_of (args := [.slice a n c]) ([]) ([]) ([]) Tryd.func5 rfl rfl (okW0 _ _ _ _) ?_
  refine J_seq ?_
  refine J_region ?_
  refine L_v rfl rfl rfl (V_assign rfl rfl) ?_
  refine L_v rfl rfl rfl (V_assign rfl rfl) ?_
  refine L_nil ?_
  change J _ _ _ _
  refine J_seq ?_
  refine J_seq ?_
  refine J_region ?_
  refine L_v rfl rfl rfl (V_move rfl rfl) ?_
  refine L_callV rfl rfl rfl rfl rfl rfl tx14c (fun w hw => ish_b _ _ _ l w hl (SlC.later hw rfl hu) (by omega) h) ?_
  refine L_v rfl rfl rfl (V_not rfl rfl rfl) ?_
  refine L_nil ?_
  change J _ _ _ _
  refine J_true rfl ?_
  refine J_seq ?_
  refine J_region ?_
  refine L_v rfl rfl rfl (V_assign rfl rfl) ?_
  refine L_v rfl rfl rfl (V_assign rfl rfl) ?_
  refine L_nil ?_
  change J _ _ _ _
  refine J_ret ?_
  change Kret _ _ _ Exit.ret _
  refine ret2 rfl rfl (RV_t rfl) (RV_t rfl) ?_
  exact fun w' h => ⟨rfl, h.fr⟩

theorem rput_ok (a : Option Addr) (n c : Nat) (l : List Ver) (w : World) (hl : l.length = n) (hu : SlC 3 w (.slice a n c) n (vcs l)) (hn : n ≤ 1048576) (hcn : n ≤ c) (h : isH l = true) :
    Calls Tryd.prog 5 #[.slice a n c] w fun e w' => RetB 5 w (putB l) (putB l).length (fun s => .tuple #[s, .int .i64 0]) e w' := by
  refine calls_of (args := [.slice a n c]) ([]) ([]) ([]) Tryd.func5 rfl rfl (okW0 _ _ _ _) ?_
  refine J_seq ?_
  refine J_region ?_
  refine L_v rfl rfl rfl (V_assign rfl rfl) ?_
  refine L_v rfl rfl rfl (V_assign rfl rfl) ?_
  refine L_nil ?_
  change J _ _ _ _
  refine J_seq ?_
  refine J_seq ?_
  refine J_region ?_
  refine L_v rfl rfl rfl (V_move rfl rfl) ?_
  refine L_callV rfl rfl rfl rfl rfl rfl tx14c (fun w hw => ish_b _ _ _ l w hl (SlC.later hw rfl hu) (by omega) h) ?_
  refine L_v rfl rfl rfl (V_not rfl rfl rfl) ?_
  refine L_nil ?_
  change J _ _ _ _
  refine J_false rfl ?_
  refine J_skip ?_
  change J _ _ _ _
  refine J_seq ?_
  refine J_region ?_
  refine L_v rfl rfl rfl (V_move rfl rfl) ?_
  refine L_callB rfl rfl rfl rfl rfl rfl tx15c (fun w hw => rbytesV_w a n c l w hl (SlC.later hw rfl hu) (by omega) hcn h) (fun g1 r1 c1 hl1 hc1 hr1 => ?_)
  refine L_v rfl rfl rfl (V_assign rfl rfl) ?_
  refine L_v rfl rfl rfl (V_assign rfl rfl) ?_
  refine L_nil ?_
  change J _ _ _ _
  refine J_ret ?_
  change Kret _ _ _ Exit.ret _
  refine ret2 rfl rfl (RV_t rfl) (RV_t rfl) ?_
  exact fun w' h => RetB.of (l := putB l) h rfl 0 rfl rfl rfl hc1 hr1

theorem vdig_no (a : Option Addr) (n c : Nat) (l : List Ver) (w : World) (hl : l.length = n) (hu : SlC 3 w (.slice a n c) n (vcs l)) (hn : n ≤ 1048576) (hcn : n ≤ c) (h : isH l = false) :
    Calls Tryd.prog 6 #[.slice a n c] w fun e w' => e = .returned (.tuple #[.agg (dg zd).toArray, .int .i64 50]) ∧ Fr [] w w' := by
  refine calls_of (args := [.slice a n c]) ([]) ([]) ([]) Tryd.func6 rfl rfl (okW0 _ _ _ _) ?_
  refine J_seq ?_
  refine J_region ?_
  refine L_alloc rfl rfl rfl rfl z28c (fun b0 => ?_)
  refine L_v rfl rfl rfl (V_assign rfl rfl) ?_
  refine L_nil ?_
  change J _ _ _ _
  refine J_seq ?_
  refine J_region ?_
  refine L_v rfl rfl rfl (V_move rfl rfl) ?_
  refine L_callV rfl rfl rfl rfl rfl rfl tx4c (fun w hw => put_no a n c l w hl (SlC.later hw rfl hu) (by omega) hcn h) ?_
  refine L_v rfl rfl rfl (V_move rfl rfl) ?_
  refine L_v rfl rfl rfl (V_extract rfl rfl rfl) ?_
  refine L_v rfl rfl rfl (V_extract rfl rfl rfl) ?_
  refine L_v rfl rfl rfl (V_assign rfl rfl) ?_
  refine L_v rfl rfl rfl (V_assign rfl rfl) ?_
  refine L_nil ?_
  change J _ _ _ _
  refine J_seq ?_
  refine J_seq ?_
  refine J_region ?_
  refine L_v rfl rfl rfl (V_move rfl rfl) ?_
  refine L_v rfl rfl rfl (V_neq rfl rfl rfl (by first | exact decide_eq_true (by omega) | exact decide_eq_false (by omega) | rfl)) ?_
  refine L_nil ?_
  change J _ _ _ _
  refine J_true rfl ?_
  refine J_seq ?_
  refine J_region ?_
  refine L_v rfl rfl rfl (V_build (vs := []) rfl rfl bdD0) ?_
  refine L_v rfl rfl rfl (V_move rfl rfl) ?_
  refine L_storeW 0 rfl rfl rfl rfl rfl rfl (szd sz28c (by first | rfl | (simp [dg_length, zd_length, shaP_len, *]; done))) (by first | exact vc_one _ | exact dg_one _) (by first | rfl | (simp [dg_length, zd_length, shaP_len, *]; done)) ?_
  refine L_v rfl rfl rfl (V_assign rfl rfl) ?_
  refine L_nil ?_
  change J _ _ _ _
  refine J_ret ?_
  change Kret _ _ _ Exit.ret _
  refine ret2 rfl rfl (RV_c 0 rfl rfl Tryd.underlying28 rfl (szd sz28c (by first | rfl | (simp [dg_length, zd_length, shaP_len, *]; done)))) (RV_t rfl) ?_
  exact fun w' h => ⟨rfl, h.fr⟩

theorem vdig_ok (a : Option Addr) (n c : Nat) (l : List Ver) (w : World) (hl : l.length = n) (hu : SlC 3 w (.slice a n c) n (vcs l)) (hn : n ≤ 1048576) (hcn : n ≤ c) (h : isH l = true) (hK : TabK KT 0 w)  :
    Calls Tryd.prog 6 #[.slice a n c] w fun e w' => e = .returned (.tuple #[.agg (dg (shaP (putB l))).toArray, .int .i64 0]) ∧ Fr [] w w' := by
  have hpl := putB_len h
  refine calls_of (args := [.slice a n c]) ([]) ([]) ([]) Tryd.func6 rfl rfl (okW0 _ _ _ _) ?_
  refine J_seq ?_
  refine J_region ?_
  refine L_alloc rfl rfl rfl rfl z28c (fun b0 => ?_)
  refine L_v rfl rfl rfl (V_assign rfl rfl) ?_
  refine L_nil ?_
  change J _ _ _ _
  refine J_seq ?_
  refine J_region ?_
  refine L_v rfl rfl rfl (V_move rfl rfl) ?_
  refine L_callB rfl rfl rfl rfl rfl rfl tx4c (fun w hw => put_ok a n c l w hl (SlC.later hw rfl hu) (by omega) hcn h) (fun g1 r1 c1 hl1 hc1 hr1 => ?_)
  refine L_v rfl rfl rfl (V_move rfl rfl) ?_
  refine L_v rfl rfl rfl (V_extract rfl rfl rfl) ?_
  refine L_v rfl rfl rfl (V_extract rfl rfl rfl) ?_
  refine L_v rfl rfl rfl (V_assign rfl rfl) ?_
  refine L_v rfl rfl rfl (V_assign rfl rfl) ?_
  refine L_nil ?_
  change J _ _ _ _
  refine J_seq ?_
  refine J_seq ?_
  refine J_region ?_
  refine L_v rfl rfl rfl (V_move rfl rfl) ?_
  refine L_v rfl rfl rfl (V_neq rfl rfl rfl (by first | exact decide_eq_true (by omega) | exact decide_eq_false (by omega) | rfl)) ?_
  refine L_nil ?_
  change J _ _ _ _
  refine J_false rfl ?_
  refine J_skip ?_
  change J _ _ _ _
  refine J_seq ?_
  refine J_region ?_
  refine L_v rfl rfl rfl (V_move rfl rfl) ?_
  refine L_callV rfl rfl rfl rfl rfl rfl tx9c (fun w hw => ssum_w (putB l) (some ⟨g1, 0, none⟩) (putB l).length c1 w (SlB.of_own hw (i := 1) (l := putB l) rfl rfl c1) (putB_byt h) hc1 (TabK.later hw (by simp) hK) (by omega)) ?_
  refine L_storeW 0 rfl rfl rfl rfl rfl rfl (szd sz28c (by first | rfl | (simp [dg_length, zd_length, shaP_len, *]; done))) (by first | exact vc_one _ | exact dg_one _) (by first | rfl | (simp [dg_length, zd_length, shaP_len, *]; done)) ?_
  refine L_v rfl rfl rfl (V_assign rfl rfl) ?_
  refine L_nil ?_
  change J _ _ _ _
  refine J_ret ?_
  change Kret _ _ _ Exit.ret _
  refine ret2 rfl rfl (RV_c 0 rfl rfl Tryd.underlying28 rfl (szd sz28c (by first | rfl | (simp [dg_length, zd_length, shaP_len, *]; done)))) (RV_t rfl) ?_
  exact fun w' h => ⟨rfl, h.fr⟩

theorem VersionPuts_no (a : Option Addr) (n c : Nat) (l : List Ver) (w : World) (hl : l.length = n) (hu : SlC 3 w (.slice a n c) n (vcs l)) (hcn : n ≤ c) (h : isH l = false) :
    Calls Tryd.prog 3 #[.slice a n c] w fun e w' => e = .returned (.bool true) ∧ Fr [] w w' := by
  refine calls_of (args := [.slice a n c]) ([]) ([]) ([]) Tryd.func3 rfl rfl (okW0 _ _ _ _) ?_
  refine J_seq ?_
  refine J_region ?_
  refine L_v rfl rfl rfl (V_assign rfl rfl) ?_
  refine L_nil ?_
  change J _ _ _ _
  refine J_seq ?_
  refine J_seq ?_
  refine J_region ?_
  refine L_v rfl rfl rfl (V_move rfl rfl) ?_
  refine L_v rfl rfl rfl (V_len rfl rfl Tryd.underlying22 rfl) ?_
  refine L_v rfl rfl rfl (V_gtr rfl rfl rfl (by first | exact decide_eq_true (by omega) | exact decide_eq_false (by omega) | rfl)) ?_
  refine L_nil ?_
  change J _ _ _ _
  refine J_cond rfl (fun h1 => ?_) (fun h1 => ?_)
  ·
    first | (have h1 := h1; rw [decide_eq_true_eq] at h1) | (have h1 := h1; rw [decide_eq_false_iff_not] at h1) | skip
    refine J_seq ?_
    refine J_region ?_
    refine L_v rfl rfl rfl (V_assign rfl rfl) ?_
    refine L_nil ?_
    change J _ _ _ _
    refine J_ret ?_
    change Kret _ _ _ Exit.ret _
    refine ret1 rfl rfl (RV_t rfl) ?_
    exact fun w' h => ⟨rfl, h.fr⟩
  ·
    first | (have h1 := h1; rw [decide_eq_true_eq] at h1) | (have h1 := h1; rw [decide_eq_false_iff_not] at h1) | skip
    refine J_skip ?_
    change J _ _ _ _
    refine J_seq ?_
    refine J_region ?_
    refine L_v rfl rfl rfl (V_move rfl rfl) ?_
    refine L_callV rfl rfl rfl rfl rfl rfl tx4c (fun w hw => put_no a n c l w hl (SlC.later hw rfl hu) (by omega) hcn h) ?_
    refine L_v rfl rfl rfl (V_move rfl rfl) ?_
    refine L_v rfl rfl rfl (V_extract rfl rfl rfl) ?_
    refine L_v rfl rfl rfl (V_extract rfl rfl rfl) ?_
    refine L_v rfl rfl rfl (V_assign rfl rfl) ?_
    refine L_v rfl rfl rfl (V_assign rfl rfl) ?_
    refine L_nil ?_
    change J _ _ _ _
    refine J_seq ?_
    refine J_region ?_
    refine L_v rfl rfl rfl (V_move rfl rfl) ?_
    refine L_callV rfl rfl rfl rfl rfl rfl tx5c (fun w hw => rput_no a n c l w hl (SlC.later hw rfl hu) (by omega) hcn h) ?_
    refine L_v rfl rfl rfl (V_move rfl rfl) ?_
    refine L_v rfl rfl rfl (V_extract rfl rfl rfl) ?_
    refine L_v rfl rfl rfl (V_extract rfl rfl rfl) ?_
    refine L_v rfl rfl rfl (V_assign rfl rfl) ?_
    refine L_v rfl rfl rfl (V_assign rfl rfl) ?_
    refine L_nil ?_
    change J _ _ _ _
    refine J_seq ?_
    refine J_region ?_
    refine L_v rfl rfl rfl (V_move rfl rfl) ?_
    refine L_callV rfl rfl rfl rfl rfl rfl tx6c (fun w hw => vdig_no a n c l w hl (SlC.later hw rfl hu) (by omega) hcn h) ?_
    refine L_v rfl rfl rfl (V_move rfl rfl) ?_
    refine L_v rfl rfl rfl (V_extract rfl rfl rfl) ?_
    refine L_v rfl rfl rfl (V_extract rfl rfl rfl) ?_
    refine L_alloc rfl rfl rfl rfl z28c (fun b0 => ?_)
    refine L_storeW 0 rfl rfl rfl rfl rfl rfl (szd sz28c (by first | rfl | (simp [dg_length, zd_length, shaP_len, *]; done))) (by first | exact vc_one _ | exact dg_one _) (by first | rfl | (simp [dg_length, zd_length, shaP_len, *]; done)) ?_
    refine L_v rfl rfl rfl (V_assign rfl rfl) ?_
    refine L_nil ?_
    change J _ _ _ _
    refine J_seq ?_
    refine J_seq ?_
    refine J_region ?_
    refine L_v rfl rfl rfl (V_move rfl rfl) ?_
    refine L_v rfl rfl rfl (V_move rfl rfl) ?_
    refine L_v rfl rfl rfl (V_neq rfl rfl rfl (by first | exact decide_eq_true (by omega) | exact decide_eq_false (by omega) | rfl)) ?_
    refine L_v rfl rfl rfl (V_move rfl rfl) ?_
    refine L_wv rfl rfl rfl rfl rfl rfl (V_move rfl rfl) ?_
    refine L_wv rfl rfl rfl rfl rfl rfl (V_move rfl rfl) ?_
    refine L_wv rfl rfl rfl rfl rfl rfl (V_neq rfl rfl rfl (by first | exact decide_eq_true (by omega) | exact decide_eq_false (by omega) | rfl)) ?_
    first | refine L_v rfl rfl rfl (V_pickT rfl rfl rfl) ?_ | refine L_v rfl rfl rfl (V_pickF rfl rfl rfl) ?_
    refine L_v rfl rfl rfl (V_move rfl rfl) ?_
    refine L_wv rfl rfl rfl rfl rfl rfl (V_move rfl rfl) ?_
    refine L_wv rfl rfl rfl rfl rfl rfl (V_str rfl rfl Tryd.underlying23 Tryd.underlying5 Tryd.underlying9 (fun w hw => SlB.nil _ _)) ?_
    refine L_wv rfl rfl rfl rfl rfl rfl (V_move rfl rfl) ?_
    refine L_wv rfl rfl rfl rfl rfl rfl (V_str rfl rfl Tryd.underlying23 Tryd.underlying5 Tryd.underlying9 (fun w hw => SlB.nil _ _)) ?_
    refine L_wv rfl rfl rfl rfl rfl rfl (V_neS rfl rfl rfl (decide_eq_false (fun hne => hne rfl))) ?_
    first | refine L_v rfl rfl rfl (V_pickT rfl rfl rfl) ?_ | refine L_v rfl rfl rfl (V_pickF rfl rfl rfl) ?_
    refine L_nil ?_
    change J _ _ _ _
    refine J_false rfl ?_
    refine J_skip ?_
    change J _ _ _ _
    refine J_seq ?_
    refine J_seq ?_
    refine J_region ?_
    refine L_v rfl rfl rfl (V_move rfl rfl) ?_
    refine L_v rfl rfl rfl (V_neq rfl rfl rfl (by first | exact decide_eq_true (by omega) | exact decide_eq_false (by omega) | rfl)) ?_
    refine L_nil ?_
    change J _ _ _ _
    refine J_true rfl ?_
    refine J_seq ?_
    refine J_region ?_
    refine L_callV rfl rfl rfl rfl rfl rfl tx7c (fun w _ => puts_w w) ?_
    refine L_v rfl rfl rfl (V_move rfl rfl) ?_
    refine L_wv rfl rfl rfl rfl rfl rfl (V_loadW 0 rfl rfl rfl Tryd.underlying28 rfl (szd sz28c (by first | rfl | (simp [dg_length, zd_length, shaP_len, *]; done)))) ?_
    refine L_wv rfl rfl rfl rfl rfl rfl (V_build (vs := []) rfl rfl bdD0) ?_
    refine L_wv rfl rfl rfl rfl rfl rfl (V_eqD rfl rfl rfl egD7 Tryd.underlying28 Tryd.underlying5 sz5c (by first | exact shaP_len _ | exact zd_length | rfl) (by first | exact shaP_len _ | exact zd_length | rfl) (decide_eq_true rfl)) ?_
    first | refine L_v rfl rfl rfl (V_pickT rfl rfl rfl) ?_ | refine L_v rfl rfl rfl (V_pickF rfl rfl rfl) ?_
    refine L_v rfl rfl rfl (V_assign rfl rfl) ?_
    refine L_nil ?_
    change J _ _ _ _
    refine J_ret ?_
    change Kret _ _ _ Exit.ret _
    refine ret1 rfl rfl (RV_t rfl) ?_
    exact fun w' h => ⟨rfl, h.fr⟩

theorem VersionPuts_ok (a : Option Addr) (n c : Nat) (l : List Ver) (w : World) (hl : l.length = n) (hu : SlC 3 w (.slice a n c) n (vcs l)) (hcn : n ≤ c) (h : isH l = true) (hK : TabK KT 0 w)  :
    Calls Tryd.prog 3 #[.slice a n c] w fun e w' => e = .returned (.bool true) ∧ Fr [] w w' := by
  have hpl := putB_len h
  refine calls_of (args := [.slice a n c]) ([]) ([]) ([]) Tryd.func3 rfl rfl (okW0 _ _ _ _) ?_
  refine J_seq ?_
  refine J_region ?_
  refine L_v rfl rfl rfl (V_assign rfl rfl) ?_
  refine L_nil ?_
  change J _ _ _ _
  refine J_seq ?_
  refine J_seq ?_
  refine J_region ?_
  refine L_v rfl rfl rfl (V_move rfl rfl) ?_
  refine L_v rfl rfl rfl (V_len rfl rfl Tryd.underlying22 rfl) ?_
  refine L_v rfl rfl rfl (V_gtr rfl rfl rfl (by first | exact decide_eq_true (by omega) | exact decide_eq_false (by omega) | rfl)) ?_
  refine L_nil ?_
  change J _ _ _ _
  refine J_cond rfl (fun h1 => ?_) (fun h1 => ?_)
  ·
    first | (have h1 := h1; rw [decide_eq_true_eq] at h1) | (have h1 := h1; rw [decide_eq_false_iff_not] at h1) | skip
    refine J_seq ?_
    refine J_region ?_
    refine L_v rfl rfl rfl (V_assign rfl rfl) ?_
    refine L_nil ?_
    change J _ _ _ _
    refine J_ret ?_
    change Kret _ _ _ Exit.ret _
    refine ret1 rfl rfl (RV_t rfl) ?_
    exact fun w' h => ⟨rfl, h.fr⟩
  ·
    first | (have h1 := h1; rw [decide_eq_true_eq] at h1) | (have h1 := h1; rw [decide_eq_false_iff_not] at h1) | skip
    refine J_skip ?_
    change J _ _ _ _
    refine J_seq ?_
    refine J_region ?_
    refine L_v rfl rfl rfl (V_move rfl rfl) ?_
    refine L_callB rfl rfl rfl rfl rfl rfl tx4c (fun w hw => put_ok a n c l w hl (SlC.later hw rfl hu) (by omega) hcn h) (fun g1 r1 c1 hl1 hc1 hr1 => ?_)
    refine L_v rfl rfl rfl (V_move rfl rfl) ?_
    refine L_v rfl rfl rfl (V_extract rfl rfl rfl) ?_
    refine L_v rfl rfl rfl (V_extract rfl rfl rfl) ?_
    refine L_v rfl rfl rfl (V_assign rfl rfl) ?_
    refine L_v rfl rfl rfl (V_assign rfl rfl) ?_
    refine L_nil ?_
    change J _ _ _ _
    refine J_seq ?_
    refine J_region ?_
    refine L_v rfl rfl rfl (V_move rfl rfl) ?_
    refine L_callB rfl rfl rfl rfl rfl rfl tx5c (fun w hw => rput_ok a n c l w hl (SlC.later hw rfl hu) (by omega) hcn h) (fun g2 r2 c2 hl2 hc2 hr2 => ?_)
    refine L_v rfl rfl rfl (V_move rfl rfl) ?_
    refine L_v rfl rfl rfl (V_extract rfl rfl rfl) ?_
    refine L_v rfl rfl rfl (V_extract rfl rfl rfl) ?_
    refine L_v rfl rfl rfl (V_assign rfl rfl) ?_
    refine L_v rfl rfl rfl (V_assign rfl rfl) ?_
    refine L_nil ?_
    change J _ _ _ _
    refine J_seq ?_
    refine J_region ?_
    refine L_v rfl rfl rfl (V_move rfl rfl) ?_
    refine L_callV rfl rfl rfl rfl rfl rfl tx6c (fun w hw => vdig_ok a n c l w hl (SlC.later hw rfl hu) (by omega) hcn h (TabK.later hw (by simp) hK)) ?_
    refine L_v rfl rfl rfl (V_move rfl rfl) ?_
    refine L_v rfl rfl rfl (V_extract rfl rfl rfl) ?_
    refine L_v rfl rfl rfl (V_extract rfl rfl rfl) ?_
    refine L_alloc rfl rfl rfl rfl z28c (fun b2 => ?_)
    refine L_storeW 2 rfl rfl rfl rfl rfl rfl (szd sz28c (by first | rfl | (simp [dg_length, zd_length, shaP_len, *]; done))) (by first | exact vc_one _ | exact dg_one _) (by first | rfl | (simp [dg_length, zd_length, shaP_len, *]; done)) ?_
    refine L_v rfl rfl rfl (V_assign rfl rfl) ?_
    refine L_nil ?_
    change J _ _ _ _
    refine J_seq ?_
    refine J_seq ?_
    refine J_region ?_
    refine L_v rfl rfl rfl (V_move rfl rfl) ?_
    refine L_v rfl rfl rfl (V_move rfl rfl) ?_
    refine L_v rfl rfl rfl (V_neq rfl rfl rfl (by first | exact decide_eq_true (by omega) | exact decide_eq_false (by omega) | rfl)) ?_
    refine L_v rfl rfl rfl (V_move rfl rfl) ?_
    refine L_wv rfl rfl rfl rfl rfl rfl (V_move rfl rfl) ?_
    refine L_wv rfl rfl rfl rfl rfl rfl (V_move rfl rfl) ?_
    refine L_wv rfl rfl rfl rfl rfl rfl (V_neq rfl rfl rfl (by first | exact decide_eq_true (by omega) | exact decide_eq_false (by omega) | rfl)) ?_
    first | refine L_v rfl rfl rfl (V_pickT rfl rfl rfl) ?_ | refine L_v rfl rfl rfl (V_pickF rfl rfl rfl) ?_
    refine L_v rfl rfl rfl (V_move rfl rfl) ?_
    refine L_wv rfl rfl rfl rfl rfl rfl (V_move rfl rfl) ?_
    refine L_wv rfl rfl rfl rfl rfl rfl (V_str rfl rfl Tryd.underlying23 Tryd.underlying5 Tryd.underlying9 (fun w hw => SlB.of_own hw (i := 0) (l := putB l) rfl rfl c1)) ?_
    refine L_wv rfl rfl rfl rfl rfl rfl (V_move rfl rfl) ?_
    refine L_wv rfl rfl rfl rfl rfl rfl (V_str rfl rfl Tryd.underlying23 Tryd.underlying5 Tryd.underlying9 (fun w hw => SlB.of_own hw (i := 1) (l := putB l) rfl rfl c2)) ?_
    refine L_wv rfl rfl rfl rfl rfl rfl (V_neS rfl rfl rfl (decide_eq_false (fun hne => hne rfl))) ?_
    first | refine L_v rfl rfl rfl (V_pickT rfl rfl rfl) ?_ | refine L_v rfl rfl rfl (V_pickF rfl rfl rfl) ?_
    refine L_nil ?_
    change J _ _ _ _
    refine J_false rfl ?_
    refine J_skip ?_
    change J _ _ _ _
    refine J_seq ?_
    refine J_seq ?_
    refine J_region ?_
    refine L_v rfl rfl rfl (V_move rfl rfl) ?_
    refine L_v rfl rfl rfl (V_neq rfl rfl rfl (by first | exact decide_eq_true (by omega) | exact decide_eq_false (by omega) | rfl)) ?_
    refine L_nil ?_
    change J _ _ _ _
    refine J_false rfl ?_
    refine J_skip ?_
    change J _ _ _ _
    refine J_seq ?_
    refine J_region ?_
    refine L_v rfl rfl rfl (V_move rfl rfl) ?_
    refine L_callO rfl rfl rfl rfl rfl rfl tx8c (fun w hw => get_s (SlB.of_own hw (i := 0) (l := putB l) rfl rfl c1) (putB_byt h) hc1 (by omega) (getV_put h)) (fun q3 hq3 => ?_)
    refine L_v rfl rfl rfl (V_move rfl rfl) ?_
    refine L_v rfl rfl rfl (V_extract rfl rfl rfl) ?_
    refine L_v rfl rfl rfl (V_extract rfl rfl rfl) ?_
    refine L_v rfl rfl rfl (V_assign rfl rfl) ?_
    refine L_v rfl rfl rfl (V_assign rfl rfl) ?_
    refine L_nil ?_
    change J _ _ _ _
    refine J_seq ?_
    refine J_regionO (.one 0 (.pure 1 (.pure 2 (.pure 3 (.one 4 (.pure 5 (.pure 6 (.pure 7 (.pure 8 (.pure 9 (.pure 10 (.pure 11 (.pure 12 (.pure 13 (.one 14 (.pure 15 (.pure 16 (.nil)))))))))))))))))) _ _ (Pk.refl _) (fun f hf => hf) rfl rfl (by kernel_rfl) ?_
    refine LO_callV rfl rfl rfl rfl rfl rfl rfl rfl tx7c (fun w _ => puts_w w) (Pk.refl _) (fun f hf => hf) ?_
    refine LO_v rfl rfl rfl rfl (V_move rfl rfl) ?_
    refine LO_wv rfl rfl rfl rfl rfl rfl rfl (V_loadW 2 rfl rfl rfl Tryd.underlying28 rfl (szd sz28c (by first | rfl | (simp [dg_length, zd_length, shaP_len, *]; done)))) ?_
    refine LO_wv rfl rfl rfl rfl rfl rfl rfl (V_move rfl rfl) ?_
    refine LO_wcallV rfl rfl rfl rfl rfl rfl rfl rfl rfl rfl rfl tx9c (fun w hw => ssum_w (putB l) (some ⟨g1, 0, none⟩) (putB l).length c1 w (SlB.of_own hw (i := 0) (l := putB l) rfl rfl c1) (putB_byt h) hc1 (TabK.later hw (by simp) hK) (by omega)) (Pk.refl _) (fun f hf => hf) ?_
    refine LO_wv rfl rfl rfl rfl rfl rfl rfl (V_eqD rfl rfl rfl egD7 Tryd.underlying28 Tryd.underlying5 sz5c (by first | exact shaP_len _ | exact zd_length | rfl) (by first | exact shaP_len _ | exact zd_length | rfl) (decide_eq_true rfl)) ?_
    first | refine LO_v rfl rfl rfl rfl (V_pickT rfl rfl rfl) ?_ | refine LO_v rfl rfl rfl rfl (V_pickF rfl rfl rfl) ?_
    refine LO_v rfl rfl rfl rfl (V_move rfl rfl) ?_
    refine LO_wv rfl rfl rfl rfl rfl rfl rfl (V_move rfl rfl) ?_
    refine LO_wv rfl rfl rfl rfl rfl rfl rfl (V_eql rfl rfl rfl (by first | exact decide_eq_true (by omega) | exact decide_eq_false (by omega) | rfl)) ?_
    first | refine LO_v rfl rfl rfl rfl (V_pickT rfl rfl rfl) ?_ | refine LO_v rfl rfl rfl rfl (V_pickF rfl rfl rfl) ?_
    refine LO_v rfl rfl rfl rfl (V_move rfl rfl) ?_
    refine LO_wv rfl rfl rfl rfl rfl rfl rfl (V_move rfl rfl) ?_
    refine LO_wv rfl rfl rfl rfl rfl rfl rfl (V_move rfl rfl) ?_
    refine LO_wcallV rfl rfl rfl rfl rfl rfl rfl rfl rfl rfl rfl tx10c (fun w hw => same_t (oA q3) a l.length (oC q3) n c l l w rfl (SlC.ofM hw (fun p hp => List.mem_append_right _ hp) hq3) hl (SlC.later hw rfl hu) (by omega) (by omega) rfl) (Pk.refl _) (fun f hf => hf) ?_
    first | refine LO_v rfl rfl rfl rfl (V_pickT rfl rfl rfl) ?_ | refine LO_v rfl rfl rfl rfl (V_pickF rfl rfl rfl) ?_
    refine LO_v rfl rfl rfl rfl (V_assign rfl rfl) ?_
    refine LO_nil ?_
    change J _ _ _ _
    refine J_ret ?_
    change Kret _ _ _ Exit.ret _
    refine ret1 rfl rfl (RV_t rfl) ?_
    exact fun w' h => ⟨rfl, h.fr⟩

theorem VersionPuts_w (u : Value) (n : Nat) (l : List Ver) (w : World) (hl : l.length = n) (hv : SlC 3 w u n (vcs l)) (hq : ∀ a n c, u = .slice a n c → n ≤ c) (hK : TabK KT 0 w) :
    Calls Tryd.prog 3 #[u] w fun e w' => e = .returned (.bool true) ∧ Fr [] w w' := by
  obtain ⟨a, c, rfl⟩ := hv.form
  have hcn := hq _ _ _ rfl
  cases h : isH l with
  | false => exact VersionPuts_no a n c l w hl hv hcn h
  | true => exact VersionPuts_ok a n c l w hl hv hcn h hK
end Go.Proofs.YthafhiemecfjiaaDoor
