/- What the functions of layer 7 that put a history as bytes, and read one, come to. -/
import Derived.Test.YthafhiemecfjiaaDoorVersion4
import Derived.Test.YthafhiemecfjiaaDoorOctetRead
import Derived.Test.YthafhiemecfjiaaDoorVerRead
import Derived.Test.YthafhiemecfjiaaDoorSx6
set_option linter.unusedVariables false
set_option linter.unusedSimpArgs false
set_option maxRecDepth 100000
namespace Go.Proofs.YthafhiemecfjiaaDoor
open Go.Sx
theorem bdL0 (w : World) : (Instr.build 40 ([] : List (Nat × Value)).toArray).run Tryd.prog w = .ok (.agg [.slice none 0 0].toArray) w := by kernel_rfl
theorem bdV3 (e k : Int) (s : ByteArray) (w : World) : (Instr.build 44 [(0, .int .i64 e), (1, .int .i64 k), (2, .string s)].toArray).run Tryd.prog w = .ok (.agg (vc (e, k, s)).toArray) w := by kernel_rfl
def putI (l : List Ver) (i : Nat) : List Int := grp l.length ++ encL (l.take i)
theorem putI_next {l : List Ver} {i : Nat} (h : i < l.length) : ((putI l i ++ grp (l.getD i v0).1) ++ grp (l.getD i v0).2.1) ++ (grp (l.getD i v0).2.2.size ++ bs (l.getD i v0).2.2) = putI l (i + 1) := by
  unfold putI
  rw [take_v h, encL_snoc]
  unfold encV
  simp only [List.append_assoc]
theorem putI_all (l : List Ver) : putI l l.length = putB l := by
  unfold putI putB
  rw [List.take_length]
theorem encL_len : ∀ (l : List Ver), (∀ v ∈ l, v.2.2.size ≤ 64) → (encL l).length ≤ l.length * 91
  | [], _ => by simp [encL]
  | v :: l, h => by
    have h1 := encL_len l (fun x hx => h x (List.mem_cons_of_mem _ hx))
    have h2 := h v (List.mem_cons_self ..)
    have g1 := grp_len v.1
    have g2 := grp_len v.2.1
    have g3 := grp_len v.2.2.size
    have e : encL (v :: l) = encV v ++ encL l := by simp [encL]
    rw [e, List.length_append, List.length_cons]
    unfold encV
    simp only [List.length_append, bs_length]
    omega
theorem putI_len {l : List Ver} (h : isH l = true) (i : Nat) : (putI l i).length ≤ 2000 := by
  have h1 := encL_len (l.take i) (fun v hv => mayV_key (fromV_may (isH_from h) v (List.mem_of_mem_take hv)))
  have h2 := isH_len h
  have h3 := grp_len l.length
  have h4 : (l.take i).length ≤ l.length := by rw [List.length_take]; omega
  unfold putI
  rw [List.length_append]
  omega
theorem putBytes_e (a : Option Addr) (n c : Nat) (l : List Int) (s : ByteArray) (w : World) (hu : SlB w (.slice a n c) l) (hn : n ≤ 1099511627776) (hcn : n ≤ c) (hs : s.size ≤ 65536) {L : List Int} {k : Nat} (hL : l ++ (grp s.size ++ bs s) = L) (hk : L.length = k) :
    Calls Tryd.prog 13 #[.slice a n c, .string s] w (RetB 5 w L k (fun s => .tuple #[s, .int .i64 0])) := by
  have h1 := putBytes_ok a n c l s w hu hn hcn hs
  have hl := hu.size
  rw [hL, show n + (grp s.size).length + s.size = k by rw [← hk, ← hL]; simp only [List.length_append, bs_length]; omega] at h1
  exact h1
/-- What is read of b: the list (none: []), where it ends, whether it is a history. -/
def readV (b : List Int) : List Ver × Int × Bool :=
  if (rc b).2.2 = 0 ∧ (rc b).1 ≤ 16 then
    match rvN (rc b).1.toNat (b.drop (rc b).2.1.toNat) [] with
    | some x => (x.1, (b.length : Int) - x.2.length, isH x.1)
    | none => ([], 0, false)
  else ([], 0, false)
theorem getV_readV (b : List Int) : getV b = if (readV b).2.2 = true ∧ (readV b).2.1 = b.length then some (readV b).1 else none := by
  unfold getV readV
  by_cases h1 : (rc b).2.2 = 0 ∧ (rc b).1 ≤ 16
  · rw [if_pos h1, if_pos h1]
    cases hq : rvN (rc b).1.toNat (b.drop (rc b).2.1.toNat) [] with
    | none => simp
    | some x =>
      obtain ⟨l, rest⟩ := x
      cases rest with
      | nil => simp
      | cons y ys =>
        simp only [List.length_cons]
        rw [if_neg (fun h => by have := h.2; omega)]
  · rw [if_neg h1, if_neg h1]; simp
theorem rvN_go {k : Nat} {d : List Int} {acc : List Ver} (h : (rv1 d).2.2 = true) : rvN (k + 1) d acc = rvN k (rv1 d).2.1 (acc ++ [(rv1 d).1]) := by
  show (match (rv1 d).2.2 with | true => _ | false => _) = _
  rw [h]
theorem rvN_no {k : Nat} {d : List Int} {acc : List Ver} (h : (rv1 d).2.2 = false) : rvN (k + 1) d acc = none := by
  show (match (rv1 d).2.2 with | true => _ | false => _) = _
  rw [h]
theorem rv1_t {d : List Int} {k1 k2 k3 : Nat} (h1 : (rc d).2.1 = k1) (h2 : (rc (d.drop k1)).2.1 = k2) (h3 : (rb ((d.drop k1).drop k2)).2.1 = k3) :
    rv1 d = (((rc d).1, (rc (d.drop k1)).1, ba (rb ((d.drop k1).drop k2)).1), ((d.drop k1).drop k2).drop k3, decide ((rb ((d.drop k1).drop k2)).2.2 = 0)) := by
  unfold rv1
  simp only [h1, h2, h3, Int.toNat_natCast]
theorem rv1_f {d : List Int} {k1 k2 k3 : Nat} (hb : Byt d) (h1 : (rc d).2.1 = k1) (h2 : (rc (d.drop k1)).2.1 = k2) (h3 : (rb ((d.drop k1).drop k2)).2.1 = k3) (h : (rc d).2.2 ≠ 0 ∨ (rc (d.drop k1)).2.2 ≠ 0 ∨ (rb ((d.drop k1).drop k2)).2.2 ≠ 0) : (rv1 d).2.2 = false := by
  rw [rv1_t h1 h2 h3]
  refine decide_eq_false fun h0 => ?_
  have := rv1_ok hb (by rw [h1, Int.toNat_natCast, h2, Int.toNat_natCast]; exact h0)
  rw [h1, Int.toNat_natCast] at this
  rcases h with h | h | h
  · exact h this.1
  · exact h this.2
  · exact h h0
theorem getV_form {b : List Int} (h : (rc b).2.2 ≠ 0 ∨ 16 < (rc b).1) : getV b = none := by
  unfold getV
  exact if_neg (fun h1 => h.elim (fun h2 => h2 h1.1) (fun h2 => by have := h1.2; omega))
theorem getV_N {b : List Int} {N : Nat} (h0 : (rc b).2.2 = 0) (h1 : (rc b).1 = N) (h2 : N ≤ 16) : getV b = match rvN N (b.drop (rc b).2.1.toNat) [] with | some (l, []) => if isH l = true then some l else none | _ => none := by
  unfold getV
  rw [if_pos ⟨h0, by omega⟩, h1, Int.toNat_natCast]
  rfl
theorem readV_form {b : List Int} (h : (rc b).2.2 ≠ 0 ∨ 16 < (rc b).1) : readV b = ([], 0, false) := by
  unfold readV
  exact if_neg (fun h1 => h.elim (fun h2 => h2 h1.1) (fun h2 => by have := h1.2; omega))
theorem readV_N {b : List Int} {N : Nat} (h0 : (rc b).2.2 = 0) (h1 : (rc b).1 = N) (h2 : N ≤ 16) : readV b = match rvN N (b.drop (rc b).2.1.toNat) [] with | some x => (x.1, (b.length : Int) - x.2.length, isH x.1) | none => ([], 0, false) := by
  unfold readV
  rw [if_pos ⟨h0, by omega⟩, h1, Int.toNat_natCast]
theorem lcount_new {cx : Cx} {m : Mem} {fs : List Fact} {w : World} {b g : Nat} {p q : Obj} (h : OkW cx [(b, p), (g, q)] fs w) (hm : cx.mods = [b]) : cx.w0.heap.size ≤ g := by
  have hd := h.dis
  simp only [List.map_cons, List.map_nil, List.nodup_cons, List.mem_singleton] at hd
  rcases h.may g (by simp) with e | e
  · exact e
  · rw [hm, List.mem_singleton] at e
    exact absurd e.symm hd.1
theorem sz3a : (Tryd.prog.info? 3).map (·.size) = some 1 := by kernel_rfl
theorem sz9a : (Tryd.prog.info? 9).map (·.size) = some 1 := by kernel_rfl
theorem sz23a : (Tryd.prog.info? 23).map (·.size) = some 1 := by kernel_rfl
theorem sz42a : (Tryd.prog.info? 42).map (·.size) = some 1 := by kernel_rfl
theorem sz44a : (Tryd.prog.info? 44).map (·.size) = some 3 := by kernel_rfl
theorem tx11a : Txt Tryd.prog 11 := txt_of Tryd.func11 rfl (by kernel_rfl)
theorem tx12a : Txt Tryd.prog 12 := txt_of Tryd.func12 rfl (by kernel_rfl)
theorem tx13a : Txt Tryd.prog 13 := txt_of Tryd.func13 rfl (by kernel_rfl)
theorem tx27a : Txt Tryd.prog 27 := txt_of Tryd.func27 rfl (by kernel_rfl)
theorem z44a : (Tryd.prog.info? 44).bind (·.zero) = some (.agg (vc v0).toArray) := by kernel_rfl

theorem lcount_w (b : Nat) (a : Option Addr) (n c : Nat) (l : List Int) (m : Int) (w : World) (hb : w.heap[b]? = some (row 40 [.slice a n c])) (hu : SlB w (.slice a n c) l) (hn : n ≤ 1099511627776) (hcn : n ≤ c) (h0 : 0 ≤ m) (h1 : m ≤ 2147483647) :
    Calls Tryd.prog 12 #[.pointer (some ⟨b, 0, none⟩), .int .i64 m] w fun e w' => PutP 40 5 w b (l ++ grp m) (n + (grp m).length) e w' := by
  have hl := hu.size
  refine calls_of (args := [.pointer (some ⟨b, 0, none⟩), .int .i64 m]) ([b]) ([(b, row 40 [.slice a n c])]) ([factB (.slice a n c) l]) Tryd.func12 rfl rfl (okR hb hu) ?_
  refine J_region ?_
  refine L_v rfl rfl rfl (V_move rfl rfl) ?_
  refine L_v rfl rfl rfl (V_move rfl rfl) ?_
  refine L_v rfl rfl rfl (V_nilCheck rfl rfl) ?_
  refine L_v rfl rfl rfl (V_fieldAddr rfl rfl Tryd.underlying40 rfl sz23a rfl) ?_
  refine L_v rfl rfl rfl (V_load1 0 rfl rfl rfl Tryd.underlying23 rfl (by first | rfl | simp)) ?_
  refine L_v rfl rfl rfl (V_move rfl rfl) ?_
  refine L_callB rfl rfl rfl rfl rfl rfl tx27a (fun w hw => putCount_ok a n c l m w (fB hw 0 rfl) hn hcn h0 h1) (fun g1 r1 c1 hl1 hc1 hr1 => ?_)
  refine L_v rfl rfl rfl (V_move rfl rfl) ?_
  refine L_v rfl rfl rfl (V_extract rfl rfl rfl) ?_
  refine L_v rfl rfl rfl (V_extract rfl rfl rfl) ?_
  refine L_v rfl rfl rfl (V_nilCheck rfl rfl) ?_
  refine L_v rfl rfl rfl (V_fieldAddr rfl rfl Tryd.underlying40 rfl sz23a rfl) ?_
  refine L_store1 0 rfl rfl rfl rfl rfl rfl rfl sz23a (by first | exact Nat.zero_lt_succ _ | (simp only [dg_length, List.length_append, List.length_take, List.length_drop, zd_length]; omega) | omega) (by first | rfl | exact dg_set _ _ _) ?_
  refine L_nil ?_
  change Kret _ _ _ Exit.normal _
  refine Kret_normal ?_
  refine ret0 rfl rfl  ?_
  exact fun w' h => ⟨g1, r1, c1, rfl, h.fr, h.at (i := 0) rfl, lcount_new (m := []) h rfl, h.at (i := 1) rfl, hl1, hc1, hr1⟩

theorem lcount_e (b : Nat) (a : Option Addr) (n c : Nat) (l : List Int) (m : Int) (w : World) (hb : w.heap[b]? = some (row 40 [.slice a n c])) (hu : SlB w (.slice a n c) l) (hn : n ≤ 1099511627776) (hcn : n ≤ c) (h0 : 0 ≤ m) (h1 : m ≤ 2147483647) {L : List Int} {k : Nat} (hL : l ++ grp m = L) (hk : L.length = k) :
    Calls Tryd.prog 12 #[.pointer (some ⟨b, 0, none⟩), .int .i64 m] w (PutP 40 5 w b L k) := by
  have h2 := lcount_w b a n c l m w hb hu hn hcn h0 h1
  have hl := hu.size
  rw [hL, show n + (grp m).length = k by rw [← hk, ← hL, List.length_append]; omega] at h2
  exact h2
theorem putI_0 (l : List Ver) : [] ++ grp l.length = putI l 0 := by simp [putI, encL]

theorem put_no (a : Option Addr) (n c : Nat) (l : List Ver) (w : World) (hl : l.length = n) (hu : SlC 3 w (.slice a n c) n (vcs l)) (hn : n ≤ 1048576) (hcn : n ≤ c) (h : isH l = false) :
    Calls Tryd.prog 4 #[.slice a n c] w fun e w' => e = .returned (.tuple #[.slice none 0 0, .int .i64 50]) ∧ Fr [] w w' := by
  refine calls_of (args := [.slice a n c]) ([]) ([]) ([]) Tryd.func4 rfl rfl (okW0 _ _ _ _) ?_
  refine J_seq ?_
  refine J_region ?_
  refine L_v rfl rfl rfl (V_assign rfl rfl) ?_
  refine L_v rfl rfl rfl (V_assign rfl rfl) ?_
  refine L_nil ?_
  change J _ _ _ _
  refine J_seq ?_
  refine J_seq ?_
  refine J_region ?_
  refine L_v rfl rfl rfl (V_move rfl rfl) ?_
  refine L_callV rfl rfl rfl rfl rfl rfl tx11a (fun w hw => check_f _ _ _ l w hl (SlC.later hw rfl hu) hn hcn h) ?_
  refine L_v rfl rfl rfl (V_assign rfl rfl) ?_
  refine L_nil ?_
  change J _ _ _ _
  refine J_seq ?_
  refine J_region ?_
  refine L_v rfl rfl rfl (V_move rfl rfl) ?_
  refine L_v rfl rfl rfl (V_neq rfl rfl rfl (by first | exact decide_eq_true (by omega) | exact decide_eq_false (by omega) | rfl)) ?_
  refine L_nil ?_
  change J _ _ _ _
  refine J_true rfl ?_
  refine J_seq ?_
  refine J_region ?_
  refine L_v rfl rfl rfl (V_move rfl rfl) ?_
  refine L_v rfl rfl rfl (V_assign rfl rfl) ?_
  refine L_v rfl rfl rfl (V_assign rfl rfl) ?_
  refine L_nil ?_
  change J _ _ _ _
  refine J_ret ?_
  change Kret _ _ _ Exit.ret _
  refine ret2 rfl rfl (RV_t rfl) (RV_t rfl) ?_
  exact fun w' h => ⟨rfl, h.fr⟩

theorem put_ok (a : Option Addr) (n c0 : Nat) (l : List Ver) (w : World) (hl : l.length = n) (hu : SlC 3 w (.slice a n c0) n (vcs l)) (hn : n ≤ 1048576) (hcn : n ≤ c0) (h : isH l = true) :
    Calls Tryd.prog 4 #[.slice a n c0] w fun e w' => RetB 5 w (putB l) (putB l).length (fun s => .tuple #[s, .int .i64 0]) e w' := by
  have hlen := isH_len h
  refine calls_of (args := [.slice a n c0]) ([]) ([]) ([]) Tryd.func4 rfl rfl (okW0 _ _ _ _) ?_
  refine J_seq ?_
  refine J_region ?_
  refine L_v rfl rfl rfl (V_assign rfl rfl) ?_
  refine L_v rfl rfl rfl (V_assign rfl rfl) ?_
  refine L_nil ?_
  change J _ _ _ _
  refine J_seq ?_
  refine J_seq ?_
  refine J_region ?_
  refine L_v rfl rfl rfl (V_move rfl rfl) ?_
  refine L_callV rfl rfl rfl rfl rfl rfl tx11a (fun w hw => check_t _ _ _ l w hl (SlC.later hw rfl hu) hn hcn h) ?_
  refine L_v rfl rfl rfl (V_assign rfl rfl) ?_
  refine L_nil ?_
  change J _ _ _ _
  refine J_seq ?_
  refine J_region ?_
  refine L_v rfl rfl rfl (V_move rfl rfl) ?_
  refine L_v rfl rfl rfl (V_neq rfl rfl rfl (by first | exact decide_eq_true (by omega) | exact decide_eq_false (by omega) | rfl)) ?_
  refine L_nil ?_
  change J _ _ _ _
  refine J_false rfl ?_
  refine J_skip ?_
  change J _ _ _ _
  refine J_seq ?_
  refine J_region ?_
  refine L_v rfl rfl rfl (V_build (vs := []) rfl rfl bdL0) ?_
  refine L_box rfl rfl rfl rfl rfl (fun b0 => ?_)
  refine L_v rfl rfl rfl (V_assign rfl rfl) ?_
  refine L_nil ?_
  change J _ _ _ _
  refine J_seq ?_
  refine J_region ?_
  refine L_v rfl rfl rfl (V_move rfl rfl) ?_
  refine L_v rfl rfl rfl (V_makeFunc rfl rfl rfl) ?_
  refine L_v rfl rfl rfl (V_assign rfl rfl) ?_
  refine L_nil ?_
  change J _ _ _ _
  refine J_seq ?_
  refine J_region ?_
  refine L_v rfl rfl rfl (V_move rfl rfl) ?_
  refine L_v rfl rfl rfl (V_move rfl rfl) ?_
  refine L_v rfl rfl rfl (V_len rfl rfl Tryd.underlying22 rfl) ?_
  refine L_callX 0 rfl rfl rfl rfl rfl rfl tx12a rfl (fun w hw => lcount_e b0 none 0 0 [] n w (hw.at (i := 0) rfl) (SlB.nil _ _) (by omega) (Nat.le_refl _) (by omega) (by omega) (L := (putI l 0)) (by rw [← hl]; exact putI_0 l) rfl) (fun g1 r1 c1 hl1 hc1 hr1 => ?_)
  refine L_nil ?_
  change J _ _ _ _
  refine J_seq ?_
  refine J_seq ?_
  refine J_region ?_
  refine L_v rfl rfl rfl (V_move rfl rfl) ?_
  refine L_v rfl rfl rfl (V_len rfl rfl Tryd.underlying22 rfl) ?_
  refine L_v rfl rfl rfl (V_move rfl rfl) ?_
  refine L_nil ?_
  change J _ _ _ _
  refine J_block ?_
  refine J_loop (X := Nat × Nat × Nat × List Value) (fun x => { env := [(0, .slice a n c0), (5, .pointer (some ⟨b0, 0, none⟩)), (6, .func (.func 12) #[.pointer (some ⟨b0, 0, none⟩)] #[]), (22, .slice a n c0), (23, .int .i64 (n : Int)), (24, .int .i64 (x.1 : Int))], mem := [(b0, row 40 [.slice (some ⟨x.2.1, 0, none⟩) (putI l x.1).length x.2.2.1]), (x.2.1, row 5 (dg (putI l x.1) ++ x.2.2.2))] }) (fun x => x.1 ≤ n ∧ (putI l x.1).length ≤ x.2.2.1 ∧ x.2.2.2.length = x.2.2.1 - (putI l x.1).length) (fun x => n - x.1) (0, g1, c1, r1) ⟨Nat.zero_le _, hc1, hr1⟩ ⟨⟨rfl, rfl, rfl, rfl, rfl, rfl, trivial⟩, List.Sublist.refl _, fun f hf => hf, rfl⟩ ?_
  rintro ⟨i, g, c, r⟩ ⟨hi, hc, hr⟩
  simp only at hi hc hr ⊢
  refine J_seq ?_
  refine J_region ?_
  refine L_v rfl rfl rfl (V_lss rfl rfl rfl (by first | exact decide_eq_true (by omega) | exact decide_eq_false (by omega) | rfl)) ?_
  refine L_nil ?_
  change J _ _ _ _
  refine J_seq ?_
  refine J_cond rfl (fun h1 => ?_) (fun h1 => ?_)
  ·
    first | (have h1 := h1; rw [decide_eq_true_eq] at h1) | (have h1 := h1; rw [decide_eq_false_iff_not] at h1) | skip
    have hpl := putI_len h i
    have hmv := fromV_may (isH_from h) (l.getD i v0) (by rw [List.getD_eq_getElem?_getD, List.getElem?_eq_getElem (show i < l.length by omega)]; exact List.getElem_mem _)
    have hep := mayV_ep hmv
    have hkd := mayV_kind hmv
    have hky := mayV_key hmv
    have hg1 := grp_len (l.getD i v0).1
    have hg2 := grp_len (l.getD i v0).2.1
    have hla : (putI l i ++ grp (l.getD i v0).1).length = (putI l i).length + (grp (l.getD i v0).1).length := List.length_append
    have hlb : ((putI l i ++ grp (l.getD i v0).1) ++ grp (l.getD i v0).2.1).length = (putI l i).length + (grp (l.getD i v0).1).length + (grp (l.getD i v0).2.1).length := by rw [List.length_append, List.length_append]
    refine J_skip ?_
    change J _ _ _ _
    refine J_seq ?_
    refine J_block ?_
    refine J_seq ?_
    refine J_region ?_
    refine L_v rfl rfl rfl (V_indexC rfl rfl rfl Tryd.underlying22 sz44a (fun w hw => SlC.later hw rfl hu) (by omega) (by omega)) ?_
    refine L_v rfl rfl rfl (V_loadCN (vs := vc (l.getD i v0)) rfl rfl Tryd.underlying44 rfl (szd sz44a (by first | rfl | (simp [dg_length, zd_length, *]; done))) (fun w hw => SlC.later hw rfl hu) (Nat.zero_lt_succ _) (vcs_v (by omega))) ?_
    refine L_alloc rfl rfl rfl rfl z44a (fun b2 => ?_)
    refine L_storeW 2 rfl rfl rfl rfl rfl rfl (szd sz44a (by first | rfl | (simp [dg_length, zd_length, *]; done))) (vc_one _) (by first | rfl | (simp [dg_length, zd_length, *]; done)) ?_
    refine L_nil ?_
    change J _ _ _ _
    refine J_seq ?_
    refine J_region ?_
    refine L_v rfl rfl rfl (V_move rfl rfl) ?_
    refine L_v rfl rfl rfl (V_fieldAddr rfl rfl Tryd.underlying44 rfl sz3a rfl) ?_
    refine L_v rfl rfl rfl (V_load1 2 rfl rfl rfl Tryd.underlying3 rfl (by first | rfl | simp)) ?_
    refine L_callX 0 rfl rfl rfl rfl rfl rfl tx12a rfl (fun w hw => lcount_e b0 (some ⟨g, 0, none⟩) (putI l i).length c (putI l i) (l.getD i v0).1 w (hw.at (i := 0) rfl) (SlB.of_own hw (i := 1) (l := putI l i) rfl rfl c) (by omega) hc (by omega) (by omega) (L := (putI l i ++ grp (l.getD i v0).1)) rfl rfl) (fun g3 r3 c3 hl3 hc3 hr3 => ?_)
    refine L_nil ?_
    change J _ _ _ _
    refine J_seq ?_
    refine J_region ?_
    refine L_v rfl rfl rfl (V_move rfl rfl) ?_
    refine L_v rfl rfl rfl (V_fieldAddr rfl rfl Tryd.underlying44 rfl sz42a rfl) ?_
    refine L_v rfl rfl rfl (V_load1 2 rfl rfl rfl Tryd.underlying42 rfl (by first | rfl | simp)) ?_
    refine L_callX 0 rfl rfl rfl rfl rfl rfl tx12a rfl (fun w hw => lcount_e b0 (some ⟨g3, 0, none⟩) (putI l i ++ grp (l.getD i v0).1).length c3 (putI l i ++ grp (l.getD i v0).1) (l.getD i v0).2.1 w (hw.at (i := 0) rfl) (SlB.of_own hw (i := 3) (l := putI l i ++ grp (l.getD i v0).1) rfl rfl c3) (by omega) hc3 (by omega) (by omega) (L := ((putI l i ++ grp (l.getD i v0).1) ++ grp (l.getD i v0).2.1)) rfl rfl) (fun g4 r4 c4 hl4 hc4 hr4 => ?_)
    refine L_nil ?_
    change J _ _ _ _
    refine J_regionO (.pure 0 (.pure 1 (.pure 2 (.pure 3 (.pure 5 (.pure 6 (.one 4 (.one 7 (.pure 8 (.pure 9 (.pure 10 (.pure 11 (.pure 12 (.one 13 (.nil))))))))))))))) ([(b2, row 44 (vc (l.getD i v0)))]) _ (Pk.of_sub (List.Sublist.cons _ (List.Sublist.cons _ (List.Sublist.cons_cons _ (List.nil_sublist _))))) (fun f hf => hf) rfl rfl (by kernel_rfl) ?_
    refine LO_v rfl rfl rfl rfl (V_move rfl rfl) ?_
    refine LO_v rfl rfl rfl rfl (V_move rfl rfl) ?_
    refine LO_v rfl rfl rfl rfl (V_nilCheck rfl rfl) ?_
    refine LO_v rfl rfl rfl rfl (V_fieldAddr rfl rfl Tryd.underlying40 rfl sz23a rfl) ?_
    refine LO_v rfl rfl rfl rfl (V_fieldAddr rfl rfl Tryd.underlying44 rfl sz9a rfl) ?_
    refine LO_v rfl rfl rfl rfl (V_load1 0 rfl rfl rfl Tryd.underlying9 rfl rfl) ?_
    refine LO_q rfl rfl rfl rfl rfl (V_load1 0 rfl rfl rfl Tryd.underlying23 rfl rfl) (Pk.of_sub (List.Sublist.cons _ (List.Sublist.cons _ (List.Sublist.cons_cons _ (List.nil_sublist _))))) (fun f hf => hf) ?_
    refine LO_callB rfl rfl rfl rfl rfl rfl rfl rfl tx13a (fun w hw => putBytes_e (some ⟨g4, 0, none⟩) ((putI l i ++ grp (l.getD i v0).1) ++ grp (l.getD i v0).2.1).length c4 _ (l.getD i v0).2.2 w (SlB.of_own hw (i := 4) (l := (putI l i ++ grp (l.getD i v0).1) ++ grp (l.getD i v0).2.1) rfl rfl c4) (by omega) hc4 (by omega) (putI_next (by omega)) rfl) (Pk.of_sub (List.Sublist.cons _ (List.Sublist.cons _ (List.Sublist.cons_cons _ (List.nil_sublist _))))) (fun f hf => hf) (fun g5 r5 c5 hl5 hc5 hr5 => ?_)
    refine LO_v rfl rfl rfl rfl (V_move rfl rfl) ?_
    refine LO_v rfl rfl rfl rfl (V_extract rfl rfl rfl) ?_
    refine LO_v rfl rfl rfl rfl (V_extract rfl rfl rfl) ?_
    refine LO_v rfl rfl rfl rfl (V_nilCheck rfl rfl) ?_
    refine LO_v rfl rfl rfl rfl (V_fieldAddr rfl rfl Tryd.underlying40 rfl sz23a rfl) ?_
    refine LO_s rfl rfl rfl (S_store 0 (vs := [.slice (some ⟨g5, 0, none⟩) (putI l (i + 1)).length c5]) (l' := [.slice (some ⟨g5, 0, none⟩) (putI l (i + 1)).length c5]) rfl rfl rfl rfl rfl rfl sz23a (by simp [Value.oneCell']) (Nat.le_refl _) rfl ⟨Pk.of_sub (List.Sublist.cons _ (List.Sublist.cons _ (List.Sublist.cons_cons _ (List.nil_sublist _)))), fun f hf => hf, ?_⟩)
    refine LO_nil ?_
    change J _ _ _ _
    refine J_region ?_
    refine L_v rfl rfl rfl (V_add rfl rfl rfl (by first | exact Go.IntWalk.i64_in _ (by omega) | rfl)) ?_
    refine L_v rfl rfl rfl (V_move rfl rfl) ?_
    refine L_nil ?_
    exact ⟨(i + 1, g5, c5, r5), ⟨by show i + 1 ≤ n; omega, hc5, hr5⟩, by show n - (i + 1) < n - i; omega, ⟨rfl, rfl, rfl, rfl, rfl, rfl, trivial⟩, List.Sublist.cons_cons _ (List.Sublist.cons _ (List.Sublist.cons _ (List.Sublist.cons _ (List.Sublist.cons _ (List.Sublist.refl _))))), fun f hf => hf, rfl⟩
  ·
    first | (have h1 := h1; rw [decide_eq_true_eq] at h1) | (have h1 := h1; rw [decide_eq_false_iff_not] at h1) | skip
    have e9 : putI l i = putB l := by rw [show i = l.length by omega, putI_all]
    refine J_exit ?_
    change J _ _ _ _
    refine J_seq ?_
    refine J_region ?_
    refine L_v rfl rfl rfl (V_move rfl rfl) ?_
    refine L_v rfl rfl rfl (V_nilCheck rfl rfl) ?_
    refine L_v rfl rfl rfl (V_fieldAddr rfl rfl Tryd.underlying40 rfl sz23a rfl) ?_
    refine L_v rfl rfl rfl (V_load1 0 rfl rfl rfl Tryd.underlying23 rfl (by first | rfl | simp)) ?_
    refine L_v rfl rfl rfl (V_assign rfl rfl) ?_
    refine L_v rfl rfl rfl (V_assign rfl rfl) ?_
    refine L_nil ?_
    change J _ _ _ _
    refine J_ret ?_
    change Kret _ _ _ Exit.ret _
    refine ret2 rfl rfl (RV_t rfl) (RV_t rfl) ?_
    rw [← e9]
    exact fun w' h => RetB.of (l := putI l i) h rfl 1 rfl rfl rfl hc hr

end Go.Proofs.YthafhiemecfjiaaDoor
