/- The document's disk: a body made safe, bytes put behind a body. -/
import Derived.Test.YtcbpgnjlbbjieaaDoorD11
set_option linter.unusedVariables false
set_option linter.unusedSimpArgs false
set_option maxRecDepth 100000
namespace Go.Proofs.YtcbpgnjlbbjieaaDoor
open Go.Sx
abbrev RB := Bo × (Option Addr × Nat)
theorem rboR_len (l : List RB) : (rboR l).length = l.length * 2 := by
  induction l with
  | nil => rfl
  | cons x l ih =>
    show (rboV x ++ rboR l).length = _
    rw [List.length_append, ih]
    show 2 + l.length * 2 = (l.length + 1) * 2
    omega
theorem rboR_set {l : List RB} {i : Nat} {x : RB} (h : l[i]? = some x) {y : RB} {k : Nat} {v : Value} (hk : k < 2) (hy : rboV y = (rboV x).set k v) : (rboR l).set (i * 2 + k) v = rboR (l.set i y) := by
  induction l generalizing i with
  | nil => cases h
  | cons z l ih =>
    show (rboV z ++ rboR l).set (i * 2 + k) v = _
    cases i with
    | zero =>
      obtain rfl : z = x := by simpa using h
      rw [List.set_append_left _ _ (by show _ < 2; omega), show 0 * 2 + k = k by omega, ← hy]
      rfl
    | succ i =>
      rw [List.set_append_right _ _ (by show 2 ≤ _; omega)]
      have := ih (i := i) (by simpa using h)
      show rboV z ++ (rboR l).set ((i + 1) * 2 + k - 2) v = rboV z ++ rboR (l.set i y)
      rw [← this]
      congr 2
      omega
theorem rsetB_good {D : Dk} {H : RkH} {i : Nat} {x : Bo} {q : Option Addr × Nat} (hG : GoodR D H) (hq : x.1.length ≤ q.2) : GoodR (D.setB i x) { H with bs := H.bs.set i (x, q) } := by
  refine ⟨hG.c, ?_, ?_, fun y hy => (List.mem_or_eq_of_mem_set hy).elim (hG.k y) (fun h => by subst h; exact hq)⟩
  · show PC 2 H.qb (H.bs.set i (x, q)).length (rboR (H.bs.set i (x, q)))
    have h1 := hG.b
    rcases hqb : H.qb with _ | ⟨g, pre, c, r⟩
    · rw [hqb] at h1
      have h2 : H.bs = [] := List.length_eq_zero_iff.1 h1.1
      rw [h2]
      exact ⟨rfl, rfl⟩
    · rw [hqb] at h1
      exact ⟨rboR_len _, by rw [List.length_set]; exact h1.2.1, by rw [List.length_set]; exact h1.2.2⟩
  · show (H.bs.set i (x, q)).map Prod.fst = D.bo.set i x
    rw [List.map_set, hG.l]
theorem rset_M (b : Nat) (D : Dk) (H : RkH) {i : Nat} {x y : RB} (h : H.bs[i]? = some x) {k : Nat} {v : Value} (hk : k < 2) (hy : rboV y = (rboV x).set k v) : rkM b (D.setB i y.1) { H with bs := H.bs.set i y } = (b, row 82 (rkC D H)) :: (pM 94 H.qc (chR D.ch) ++ pM 91 H.qb ((rboR H.bs).set (i * 2 + k) v)) := by
  show (b, row _ (rkT _ (pV H.qb (H.bs.set i y).length) _ _ _ _ _)) :: (_ ++ pM _ H.qb (rboR (H.bs.set i y))) = _
  rw [List.length_set, rboR_set h hk hy]
  rfl
theorem set_same {α β : Type} {f : α → β} {l : List α} {i : Nat} {x y : α} (h : l[i]? = some x) (e : f y = f x) : (l.set i y).map f = l.map f := by
  apply List.ext_getElem?
  intro j
  rw [List.getElem?_map, List.getElem?_map, List.getElem?_set]
  split
  · rename_i h1
    subst h1
    rw [h, if_pos (List.getElem?_eq_some_iff.1 h).1, Option.map_some, Option.map_some, e]
  · rfl
theorem rsync_F (D : Dk) (H : RkH) {i n : Nat} {x : Bo} {q : Option Addr × Nat} (h : H.bs[i]? = some (x, q)) : rkF (Dk.step (D.setB i (x.1, n))) { H with bs := H.bs.set i ((x.1, n), q) } = rkF D H := by
  show andF (nmF H.sa H.sc D.sf) (allF ((H.bs.set i ((x.1, n), q)).map rbF)) = andF _ (allF _)
  rw [set_same (f := rbF) (y := ((x.1, n), q)) h rfl]
theorem bodyV_i {D : Dk} {f : ByteArray} {i : Nat} (h : D.find f = some i) : bodyV D f = (i : Int) := by unfold bodyV; rw [h]
theorem pM_fst (e : TypeId) (q : OwnP) (ks ks' : List Value) : (pM e q ks).map (·.1) = (pM e q ks').map (·.1) := by cases q <;> rfl
/-- A row of one's own is from now on only told of; it is none of the blocks that are kept. -/
theorem J_toFactQ {cx : Cx} {c : Code} {K : Exit → St → Prop} {st : St} {e : TypeId} {sz n : Nat} (m1 : Mem) (q : OwnP) (ks : List Value) (hm : st.mem = m1 ++ pM e q ks) (hq : PC sz q n ks) (h : (∀ k, (factC sz (.slice (pA q) n (pC q)) n ks).fp k → (cx.w0.heap.size ≤ k ∨ k ∈ cx.mods) ∧ k ∉ m1.map (·.1)) → J cx c K { st with mem := m1, facts := st.facts ++ [factC sz (.slice (pA q) n (pC q)) n ks] }) : J cx c K st := by
  intro a w ho
  refine J_toFactP m1 q ks hm hq (h fun k hk => ?_) a w ho
  have h0 := ho.w
  rw [hm] at h0
  rcases q with _ | ⟨g, pre, c', r⟩
  · obtain ⟨_, rfl⟩ := hq
    exact absurd rfl hk.1
  · obtain ⟨_, off, n', c2, e'⟩ := hk
    simp only [pA, Value.slice.injEq, Option.some.injEq, Addr.mk.injEq] at e'
    obtain rfl : g = k := e'.1.1
    have hin : g ∈ (m1 ++ pM e (some (g, pre, c', r)) ks).map (·.1) := by rw [List.map_append]; exact List.mem_append_right _ (List.mem_singleton.2 rfl)
    refine ⟨h0.may g hin, fun h9 => ?_⟩
    have hd := h0.dis
    rw [List.map_append, List.nodup_append] at hd
    exact hd.2.2 g h9 g (List.mem_singleton.2 rfl) rfl
theorem rappd_p {D : Dk} {H : RkH} {i : Nat} {x y : RB} {w : World} (h : (rkF D H).p w) (hy : (rbF y).p w) : (rkF (D.setB i y.1) { H with bs := H.bs.set i y }).p w := by
  refine ⟨h.1, fun f hf => ?_⟩
  obtain ⟨z, hz, rfl⟩ := List.mem_map.1 hf
  rcases List.mem_or_eq_of_mem_set hz with h1 | rfl
  · exact h.2 _ (List.mem_map.2 ⟨z, h1, rfl⟩)
  · exact hy
theorem rappd_fp {D : Dk} {H : RkH} {i : Nat} {y : RB} {k : Nat} (h : (rkF (D.setB i y.1) { H with bs := H.bs.set i y }).fp k) : (rkF D H).fp k ∨ (rbF y).fp k := by
  rcases h with h | ⟨f, hf, hk⟩
  · exact .inl (.inl h)
  · obtain ⟨z, hz, rfl⟩ := List.mem_map.1 hf
    rcases List.mem_or_eq_of_mem_set hz with h1 | rfl
    · exact .inl (.inr ⟨_, List.mem_map.2 ⟨z, h1, rfl⟩, hk⟩)
    · exact .inr hk
theorem sumL_s {D : Dk} {l : List Nm} {i : Nat} (h : i < l.length) : sumL D (l.take (i + 1)) = sumL D (l.take i) + (D.bo.getD (l.getD i (e0, 0)).2 bo0).1.length := by
  rw [take_s (e0, 0) h]
  unfold sumL
  rw [List.map_append, List.sum_append]
  rfl
theorem factB_C {v : Value} {l : List Int} {n k : Nat} (h : (factB v l).fp k) : (factC 1 v n (dg l)).fp k := ⟨fun e => h.1 (List.map_eq_nil_iff.1 e), h.2⟩
theorem sz3dl : (Tryd.prog.info? 3).map (·.size) = some 1 := by kernel_rfl
theorem sz4dl : (Tryd.prog.info? 4).map (·.size) = some 1 := by kernel_rfl
theorem sz22dl : (Tryd.prog.info? 22).map (·.size) = some 1 := by kernel_rfl
theorem sz78dl : (Tryd.prog.info? 78).map (·.size) = some 1 := by kernel_rfl
theorem sz91dl : (Tryd.prog.info? 91).map (·.size) = some 2 := by kernel_rfl
theorem sz96dl : (Tryd.prog.info? 96).map (·.size) = some 2 := by kernel_rfl
theorem tx57dl : Txt Tryd.prog 57 := txt_of Tryd.func57 rfl (by kernel_rfl)
theorem tx58dl : Txt Tryd.prog 58 := txt_of Tryd.func58 rfl (by kernel_rfl)
theorem tx60dl : Txt Tryd.prog 60 := txt_of Tryd.func60 rfl (by kernel_rfl)

theorem rsync_w (b0 : Nat) (D : Dk) (H : RkH) (f : ByteArray) (w : World) {k : Nat} (hM : MemAt w (rkM b0 D H)) (hG : GoodR D H) (hW : WfD D k) (hF : ∀ f ∈ [rkF D H], f.p w ∧ ∀ k, f.fp k → k < w.heap.size ∧ k ∉ (rkM b0 D H).map (·.1)) (hk : k ≤ 549755813888) :
    Calls Tryd.prog 43 #[.pointer (some ⟨b0, 0, none⟩), .string f] w fun e w' => RkP b0 D H w (syncD D f) (.int .i64 (nameE D f)) e w' := by
  have hbl := rbs_len hG
  refine calls_of (args := [.pointer (some ⟨b0, 0, none⟩), .string f]) ((rkM b0 D H).map (·.1)) (rkM b0 D H) ([rkF D H]) Tryd.func43 rfl rfl (okMem hM hF) ?_
  by_cases hE : nameE D f = 0
  ·
    obtain ⟨hd, i, hi⟩ := nameE_0 hE
    refine J_seq ?_
    refine J_region ?_
    refine L_v rfl rfl rfl (V_assign rfl rfl) ?_
    refine L_nil ?_
    change J _ _ _ _
    refine J_seq ?_
    refine J_region ?_
    refine L_v rfl rfl rfl (V_move rfl rfl) ?_
    refine L_v rfl rfl rfl (V_move rfl rfl) ?_
    refine L_callV rfl rfl rfl rfl rfl rfl tx57dl (fun w1 hw => (body_w b0 D H f w1 (hw.memAt (List.Sublist.refl _)) hG (hw.fa 0 rfl) hW (by have := hW.n2; omega)).mono fun e w2 h => ⟨by rw [h.1, bodyV_i hi], h.2⟩) ?_
    refine L_v rfl rfl rfl (V_assign rfl rfl) ?_
    refine L_nil ?_
    change J _ _ _ _
    refine J_seq ?_
    refine J_block ?_
    refine J_seq ?_
    refine J_region ?_
    refine L_v rfl rfl rfl (V_move rfl rfl) ?_
    refine L_v rfl rfl rfl (V_nilCheck rfl rfl) ?_
    refine L_v rfl rfl rfl (V_fieldAddr rfl rfl Tryd.underlying82 rfl sz4dl rfl) ?_
    refine L_v rfl rfl rfl (V_load1 0 rfl rfl rfl Tryd.underlying4 rfl (by rfl)) ?_
    refine L_v rfl rfl rfl (V_assign rfl rfl) ?_
    refine L_nil ?_
    change J _ _ _ _
    refine J_cond rfl (fun h1 => ?_) (fun h1 => ?_)
    ·
      first | (have h1 := of_decide_eq_true h1) | (have h1 := of_decide_eq_false h1) | skip
      rw [hd] at h1; cases h1
    ·
      first | (have h1 := of_decide_eq_true h1) | (have h1 := of_decide_eq_false h1) | skip
      refine J_seq ?_
      refine J_region ?_
      refine L_v rfl rfl rfl (V_move rfl rfl) ?_
      refine L_v rfl rfl rfl (V_lss rfl rfl rfl rfl) ?_
      refine L_v rfl rfl rfl (V_assign rfl rfl) ?_
      refine L_nil ?_
      change J _ _ _ _
      refine J_cond rfl (fun h2 => ?_) (fun h2 => ?_)
      ·
        first | (have h2 := of_decide_eq_true h2) | (have h2 := of_decide_eq_false h2) | skip
        omega
      ·
        first | (have h2 := of_decide_eq_true h2) | (have h2 := of_decide_eq_false h2) | skip
        have hil := hW.find_lt hi
        obtain ⟨q, hq⟩ := rbs_get hG hil
        have hAt : ∃ b off, pA H.qb = some ⟨b, off, none⟩ := hG.b.at (by omega)
        refine J_skip ?_
        change J _ _ _ _
        refine J_seq ?_
        refine J_regionO (.pure 0 (.pure 1 (.pure 2 (.pure 3 (.pure 4 (.pure 5 (.pure 6 (.pure 7 (.pure 8 (.pure 9 (.pure 10 (.pure 11 (.one 12 (.pure 13 (.pure 14 (.pure 15 (.one 16 (.nil)))))))))))))))))) ([(b0, row 82 (rkC D H))]) _ (Pk.of_sub (List.Sublist.cons_cons _ (List.nil_sublist _))) (fun f hf => hf) rfl rfl (by kernel_rfl) ?_
        refine LO_v rfl rfl rfl rfl (V_move rfl rfl) ?_
        refine LO_v rfl rfl rfl rfl (V_nilCheck rfl rfl) ?_
        refine LO_v rfl rfl rfl rfl (V_fieldAddr rfl rfl Tryd.underlying82 rfl sz78dl rfl) ?_
        refine LO_v rfl rfl rfl rfl (V_load1 0 rfl rfl rfl Tryd.underlying78 rfl (by rfl)) ?_
        refine LO_v rfl rfl rfl rfl (V_move rfl rfl) ?_
        refine LO_v rfl rfl rfl rfl (V_move rfl rfl) ?_
        refine LO_v rfl rfl rfl rfl (V_nilCheck rfl rfl) ?_
        refine LO_v rfl rfl rfl rfl (V_fieldAddr rfl rfl Tryd.underlying82 rfl sz78dl rfl) ?_
        refine LO_v rfl rfl rfl rfl (V_load1 0 rfl rfl rfl Tryd.underlying78 rfl (by rfl)) ?_
        refine LO_v rfl rfl rfl rfl (V_move rfl rfl) ?_
        refine LO_v rfl rfl rfl rfl (V_indexN rfl rfl rfl Tryd.underlying78 sz91dl hAt (by omega) (by omega)) ?_
        refine LO_v rfl rfl rfl rfl (V_fieldC rfl rfl (fun _ _ => hAt) Tryd.underlying91 rfl sz22dl rfl) ?_
        refine LO_s rfl rfl rfl (S_v rfl rfl (V_loadC rfl rfl Tryd.underlying22 rfl (fun w hw => hG.b.slC (e := 91) hw (fun p hp => List.mem_cons_of_mem _ (List.mem_append_right _ hp))) (rboR_at hq 0 _ rfl)) ⟨(Pk.of_sub (List.Sublist.cons_cons _ (List.nil_sublist _))), (fun f hf => hf), ?_⟩)
        refine LO_v rfl rfl rfl rfl (V_len rfl rfl Tryd.underlying22 rfl) ?_
        refine LO_v rfl rfl rfl rfl (V_indexN rfl rfl rfl Tryd.underlying78 sz91dl hAt (by omega) (by omega)) ?_
        refine LO_v rfl rfl rfl rfl (V_fieldC rfl rfl (fun _ _ => hAt) Tryd.underlying91 rfl sz3dl rfl) ?_
        refine LO_s rfl rfl rfl (S_storeP (e := 91) ((b0, row 82 (rkC D H)) :: pM 94 H.qc (chR D.ch)) [] H.qb (rboR H.bs) rfl rfl rfl rfl (by show _ :: (_ ++ _) = _; simp only [List.cons_append, List.append_assoc, List.append_nil]) hG.b (by rw [rboR_len]; show i * 2 + 1 < _; omega) rfl sz3dl ⟨(Pk.of_sub (List.Sublist.cons_cons _ (List.nil_sublist _))), (fun f hf => hf), ?_⟩)
        refine LO_nil ?_
        change J _ _ _ _
        refine J_seq ?_
        refine J_pk (rkM b0 (D.setB i ((D.bo.getD i bo0).1, (D.bo.getD i bo0).1.length)) { H with bs := H.bs.set i (((D.bo.getD i bo0).1, (D.bo.getD i bo0).1.length), q) }) (Pk.of_sub (by rw [rset_M b0 D H (y := (((D.bo.getD i bo0).1, (D.bo.getD i bo0).1.length), q)) hq (k := 1) (v := .int .i64 ((D.bo.getD i bo0).1.length : Nat)) (by decide) rfl]; show List.Sublist (_ :: (pM _ _ _ ++ pM _ _ _)) ((_ :: _) ++ (_ ++ [])); rw [List.append_nil]; exact List.Sublist.refl _)) ?_
        refine J_region ?_
        refine L_v rfl rfl rfl (V_move rfl rfl) ?_
        refine L_call rfl rfl rfl rfl tx60dl (fun w1 hw => (rstep_w b0 (D.setB i ((D.bo.getD i bo0).1, (D.bo.getD i bo0).1.length)) { H with bs := H.bs.set i (((D.bo.getD i bo0).1, (D.bo.getD i bo0).1.length), q) } w1 (hw.at (i := 0) rfl) (fun hs => hW.lf hs hd)).mono ?_)
        rintro e w' ⟨rfl, hfr, hb'⟩
        refine ⟨_, _, _, rfl, hw.set (i := 0) rfl hfr hb', rfl, ?_⟩
        refine L_v rfl rfl rfl (V_assign rfl rfl) ?_
        refine L_nil ?_
        change J _ _ _ _
        refine J_ret ?_
        change Kret _ _ _ Exit.ret _
        refine ret1 rfl rfl (RV_t rfl) ?_
        have e9 := rsync_F D H (n := (D.bo.getD i bo0).1.length) hq
        exact fun w' h => RkP.ok (nameE_3 hd hi) (syncD_0 hE hi) (rsetB_good (x := ((D.bo.getD i bo0).1, (D.bo.getD i bo0).1.length)) (q := q) hG (hG.k _ (List.mem_of_getElem? hq)) |>.same rfl rfl) (by rw [e9]; exact (UpdG.of h rfl (Pk.of_sub (List.Sublist.refl _)) (List.mem_singleton.2 rfl) (.self (List.mem_singleton.2 rfl))))
  ·
    refine J_seq ?_
    refine J_region ?_
    refine L_v rfl rfl rfl (V_assign rfl rfl) ?_
    refine L_nil ?_
    change J _ _ _ _
    refine J_seq ?_
    refine J_region ?_
    refine L_v rfl rfl rfl (V_move rfl rfl) ?_
    refine L_v rfl rfl rfl (V_move rfl rfl) ?_
    refine L_callV rfl rfl rfl rfl rfl rfl tx57dl (fun w1 hw => body_w b0 D H f w1 (hw.memAt (List.Sublist.refl _)) hG (hw.fa 0 rfl) hW (by have := hW.n2; omega)) ?_
    refine L_v rfl rfl rfl (V_assign rfl rfl) ?_
    refine L_nil ?_
    change J _ _ _ _
    refine J_seq ?_
    refine J_block ?_
    refine J_seq ?_
    refine J_region ?_
    refine L_v rfl rfl rfl (V_move rfl rfl) ?_
    refine L_v rfl rfl rfl (V_nilCheck rfl rfl) ?_
    refine L_v rfl rfl rfl (V_fieldAddr rfl rfl Tryd.underlying82 rfl sz4dl rfl) ?_
    refine L_v rfl rfl rfl (V_load1 0 rfl rfl rfl Tryd.underlying4 rfl (by rfl)) ?_
    refine L_v rfl rfl rfl (V_assign rfl rfl) ?_
    refine L_nil ?_
    change J _ _ _ _
    refine J_cond rfl (fun h1 => ?_) (fun h1 => ?_)
    ·
      first | (have h1 := of_decide_eq_true h1) | (have h1 := of_decide_eq_false h1) | skip
      have hd : D.down = true := h1
      refine J_seq ?_
      refine J_region ?_
      refine L_v rfl rfl rfl (V_assign rfl rfl) ?_
      refine L_nil ?_
      change J _ _ _ _
      refine J_ret ?_
      change Kret _ _ _ Exit.ret _
      refine ret1 rfl rfl (RV_t rfl) ?_
      exact fun w' h => RkP.no hG (nameE_1 hd) (syncD_no (by rw [nameE_1 hd]; decide)) (UpdG.of h rfl (Pk.of_sub (List.Sublist.refl _)) (List.mem_singleton.2 rfl) (.self (List.mem_singleton.2 rfl)))
    ·
      first | (have h1 := of_decide_eq_true h1) | (have h1 := of_decide_eq_false h1) | skip
      have hd : D.down = false := h1
      refine J_seq ?_
      refine J_region ?_
      refine L_v rfl rfl rfl (V_move rfl rfl) ?_
      refine L_v rfl rfl rfl (V_lss rfl rfl rfl rfl) ?_
      refine L_v rfl rfl rfl (V_assign rfl rfl) ?_
      refine L_nil ?_
      change J _ _ _ _
      refine J_cond rfl (fun h2 => ?_) (fun h2 => ?_)
      ·
        first | (have h2 := of_decide_eq_true h2) | (have h2 := of_decide_eq_false h2) | skip
        have h2 := bodyV_T.1 h2
        refine J_seq ?_
        refine J_region ?_
        refine L_v rfl rfl rfl (V_assign rfl rfl) ?_
        refine L_nil ?_
        change J _ _ _ _
        refine J_ret ?_
        change Kret _ _ _ Exit.ret _
        refine ret1 rfl rfl (RV_t rfl) ?_
        exact fun w' h => RkP.no hG (nameE_2 hd h2) (syncD_no (by rw [nameE_2 hd h2]; decide)) (UpdG.of h rfl (Pk.of_sub (List.Sublist.refl _)) (List.mem_singleton.2 rfl) (.self (List.mem_singleton.2 rfl)))
      ·
        first | (have h2 := of_decide_eq_true h2) | (have h2 := of_decide_eq_false h2) | skip
        obtain ⟨i, hi, _⟩ := bodyV_F h2; exact absurd (nameE_3 hd hi) hE

set_option maxHeartbeats 2000000 in
theorem rappend_w (b0 : Nat) (D : Dk) (H : RkH) (f : ByteArray) (a : Option Addr) (c : Nat) (l : List Int) (w : World) {k : Nat} (hM : MemAt w (rkM b0 D H)) (hG : GoodR D H) (hW : WfD D k) (hF : ∀ f ∈ [rkF D H, factB (.slice a l.length c) l], f.p w ∧ ∀ k, f.fp k → k < w.heap.size ∧ k ∉ (rkM b0 D H).map (·.1)) (hk : k ≤ 549755813888) :
    Calls Tryd.prog 42 #[.pointer (some ⟨b0, 0, none⟩), .string f, .slice a l.length c] w fun e w' => RkP b0 D H w (appendD D f l) (.int .i64 (appendE D f l)) e w' := by
  have hbl := rbs_len hG
  have hub := used_bd hW hk
  have hr0 := hW.r0
  have hr1 := hW.r1
  have hal := hW.alen
  refine calls_of (args := [.pointer (some ⟨b0, 0, none⟩), .string f, .slice a l.length c]) ((rkM b0 D H).map (·.1)) (rkM b0 D H) ([rkF D H, factB (.slice a l.length c) l]) Tryd.func42 rfl rfl (okMem hM hF) ?_
  by_cases hE : nameE D f = 0
  ·
    obtain ⟨hd, i, hi⟩ := nameE_0 hE
    refine J_seq ?_
    refine J_region ?_
    refine L_v rfl rfl rfl (V_assign rfl rfl) ?_
    refine L_nil ?_
    change J _ _ _ _
    refine J_seq ?_
    refine J_region ?_
    refine L_v rfl rfl rfl (V_move rfl rfl) ?_
    refine L_v rfl rfl rfl (V_move rfl rfl) ?_
    refine L_callV rfl rfl rfl rfl rfl rfl tx57dl (fun w1 hw => (body_w b0 D H f w1 (hw.memAt (List.Sublist.refl _)) hG (hw.fa 0 rfl) hW (by have := hW.n2; omega)).mono fun e w2 h => ⟨by rw [h.1, bodyV_i hi], h.2⟩) ?_
    refine L_v rfl rfl rfl (V_assign rfl rfl) ?_
    refine L_nil ?_
    change J _ _ _ _
    refine J_seq ?_
    refine J_block ?_
    refine J_seq ?_
    refine J_region ?_
    refine L_v rfl rfl rfl (V_move rfl rfl) ?_
    refine L_v rfl rfl rfl (V_nilCheck rfl rfl) ?_
    refine L_v rfl rfl rfl (V_fieldAddr rfl rfl Tryd.underlying82 rfl sz4dl rfl) ?_
    refine L_v rfl rfl rfl (V_load1 0 rfl rfl rfl Tryd.underlying4 rfl (by rfl)) ?_
    refine L_v rfl rfl rfl (V_assign rfl rfl) ?_
    refine L_nil ?_
    change J _ _ _ _
    refine J_cond rfl (fun h1 => ?_) (fun h1 => ?_)
    ·
      first | (have h1 := of_decide_eq_true h1) | (have h1 := of_decide_eq_false h1) | skip
      rw [hd] at h1; cases h1
    ·
      first | (have h1 := of_decide_eq_true h1) | (have h1 := of_decide_eq_false h1) | skip
      refine J_seq ?_
      refine J_region ?_
      refine L_v rfl rfl rfl (V_move rfl rfl) ?_
      refine L_v rfl rfl rfl (V_lss rfl rfl rfl rfl) ?_
      refine L_v rfl rfl rfl (V_assign rfl rfl) ?_
      refine L_nil ?_
      change J _ _ _ _
      refine J_cond rfl (fun h2 => ?_) (fun h2 => ?_)
      ·
        first | (have h2 := of_decide_eq_true h2) | (have h2 := of_decide_eq_false h2) | skip
        omega
      ·
        first | (have h2 := of_decide_eq_true h2) | (have h2 := of_decide_eq_false h2) | skip
        have hil := hW.find_lt hi
        obtain ⟨q, hq⟩ := rbs_get hG hil
        have hAt : ∃ b off, pA H.qb = some ⟨b, off, none⟩ := hG.b.at (by omega)
        have hin : rbF (D.bo.getD i bo0, q) ∈ H.bs.map rbF := List.mem_map.2 ⟨_, List.mem_of_getElem? hq, rfl⟩
        have hbx := (hW.bod i).2.1
        refine J_skip ?_
        change J _ _ _ _
        refine J_seq ?_
        refine J_region ?_
        refine L_v rfl rfl rfl (V_move rfl rfl) ?_
        refine L_call rfl rfl rfl rfl tx58dl (fun w1 hw => (all_w b0 D H w1 (hw.memAt (List.Sublist.refl _)) hG (hw.fa 0 rfl) (by have := hW.n2; omega)).mono ?_)
        rintro e w' ⟨a2, c2, rfl, hfr, hg⟩
        refine ⟨_, _, _, rfl, hw.addG (fun g hg => by obtain rfl := List.mem_singleton.1 hg; exact List.mem_cons_self ..) hfr hg, rfl, ?_⟩
        have hs := hg.1.1
        refine L_v rfl rfl rfl (V_assign rfl rfl) ?_
        refine L_nil ?_
        change J _ _ _ _
        refine J_seq ?_
        refine J_region ?_
        refine L_v rfl rfl rfl (V_move rfl rfl) ?_
        refine L_v rfl rfl rfl (V_nilCheck rfl rfl) ?_
        refine L_v rfl rfl rfl (V_fieldAddr rfl rfl Tryd.underlying82 rfl sz3dl rfl) ?_
        refine L_v rfl rfl rfl (V_load1 0 rfl rfl rfl Tryd.underlying3 rfl (by rfl)) ?_
        refine L_v rfl rfl rfl (V_assign rfl rfl) ?_
        refine L_nil ?_
        change J _ _ _ _
        refine J_seq ?_
        refine J_seq ?_
        refine J_region ?_
        refine L_v rfl rfl rfl (V_assign rfl rfl) ?_
        refine L_nil ?_
        change J _ _ _ _
        refine J_block ?_
        refine J_loop (X := Nat × Int) (fun x => { env := [(0, .pointer (some ⟨b0, 0, none⟩)), (2, .slice a l.length c), (7, .int .i64 (i : Int)), (8, .slice a2 D.all.length c2), (9, .int .i64 x.2), (10, .int .i64 (x.1 : Int))], mem := rkM b0 D H, facts := [rkF D H, factB (.slice a l.length c) l, nmF a2 c2 D.all] }) (fun x => x.1 ≤ D.all.length ∧ x.2 = D.room - (sumL D (D.all.take x.1) : Nat) ∧ sumL D (D.all.take x.1) ≤ x.1 * 4194304) (fun x => D.all.length - x.1) (0, D.room) ⟨Nat.zero_le _, (by show D.room = D.room - ((0 : Nat) : Int); omega), Nat.le_trans (Nat.le_of_eq (show sumL D (D.all.take 0) = 0 from rfl)) (Nat.zero_le _)⟩ ⟨⟨rfl, rfl, rfl, rfl, rfl, rfl, trivial⟩, List.Sublist.refl _, fun f hf => hf, rfl⟩ ?_
        rintro ⟨j, rm⟩ ⟨hjl, hrm, hsm⟩
        try simp only at hjl hrm hsm ⊢
        refine J_seq ?_
        refine J_seq ?_
        refine J_region ?_
        refine L_v rfl rfl rfl (V_move rfl rfl) ?_
        refine L_v rfl rfl rfl (V_move rfl rfl) ?_
        refine L_v rfl rfl rfl (V_len rfl rfl Tryd.underlying79 rfl) ?_
        refine L_v rfl rfl rfl (V_lss rfl rfl rfl rfl) ?_
        refine L_nil ?_
        change J _ _ _ _
        refine J_cond rfl (fun h3 => ?_) (fun h3 => ?_)
        ·
          first | (have h3 := of_decide_eq_true h3) | (have h3 := of_decide_eq_false h3) | skip
          have hj : j < D.all.length := by omega
          have hpl := hW.alt _ (getD_mem (d := (e0, 0)) hj)
          obtain ⟨qp, hqp⟩ := rbs_get hG hpl
          have hbd := (hW.bod (D.all.getD j (e0, 0)).2).2.1
          refine J_skip ?_
          change J _ _ _ _
          refine J_seq ?_
          refine J_block ?_
          refine J_regionQ rfl (by kernel_rfl) ?_
          refine LQ_v rfl rfl rfl (V_move rfl rfl) ?_
          refine LQ_v rfl rfl rfl (V_move rfl rfl) ?_
          refine LQ_v rfl rfl rfl (V_nilCheck rfl rfl) ?_
          refine LQ_v rfl rfl rfl (V_fieldAddr rfl rfl Tryd.underlying82 rfl sz78dl rfl) ?_
          refine LQ_v rfl rfl rfl (V_load1 0 rfl rfl rfl Tryd.underlying78 rfl (by rfl)) ?_
          refine LQ_v rfl rfl rfl (V_move rfl rfl) ?_
          refine LQ_v rfl rfl rfl (V_move rfl rfl) ?_
          refine LQ_v rfl rfl rfl (V_indexN rfl rfl rfl Tryd.underlying79 sz96dl (nm_pos hs hj) (by omega) (by omega)) ?_
          refine LQ_v rfl rfl rfl (V_fieldC rfl rfl (fun _ _ => nm_pos hs hj) Tryd.underlying96 rfl sz3dl rfl) ?_
          refine LQ_v rfl rfl rfl (V_loadC rfl rfl Tryd.underlying3 rfl (fun w hw => (hw.fa 2 rfl).1) (nmR_at hj 1 _ rfl)) ?_
          refine LQ_v rfl rfl rfl (V_indexN rfl rfl rfl Tryd.underlying78 sz91dl hAt (by omega) (by omega)) ?_
          refine LQ_v rfl rfl rfl (V_fieldC rfl rfl (fun _ _ => hAt) Tryd.underlying91 rfl sz22dl rfl) ?_
          refine LQ_v rfl rfl rfl (V_loadC rfl rfl Tryd.underlying22 rfl (fun w hw => hG.b.slC (e := 91) hw (fun p hp => List.mem_cons_of_mem _ (List.mem_append_right _ hp))) (rboR_at hqp 0 _ rfl)) ?_
          refine LQ_v rfl rfl rfl (V_len rfl rfl Tryd.underlying22 rfl) ?_
          refine LQ_v rfl rfl rfl (V_sub (r := rm - (D.bo.getD (D.all.getD j (e0, 0)).2 bo0).1.length) rfl rfl rfl (by show IntKind.i64.wrap (rm - (((D.bo.getD (D.all.getD j (e0, 0)).2 bo0).1.length : Nat) : Int)) = _; rw [IntKind.wrap_i64]; omega)) ?_
          refine LQ_v rfl rfl rfl (V_assign rfl rfl) ?_
          refine LQ_nil ?_
          change J _ _ _ _
          refine J_region ?_
          refine L_v rfl rfl rfl (V_move rfl rfl) ?_
          refine L_v rfl rfl rfl (V_add (r := ((j + 1 : Nat) : Int)) rfl rfl rfl (by rw [IntKind.wrap_i64]; omega)) ?_
          refine L_v rfl rfl rfl (V_assign rfl rfl) ?_
          refine L_nil ?_
          exact ⟨(j + 1, rm - (D.bo.getD (D.all.getD j (e0, 0)).2 bo0).1.length), ⟨(by show j + 1 ≤ _; omega), (by show rm - _ = D.room - ((sumL D (D.all.take (j + 1)) : Nat) : Int); rw [sumL_s hj]; omega), (by show sumL D (D.all.take (j + 1)) ≤ (j + 1) * 4194304; rw [sumL_s hj]; omega)⟩, (by show D.all.length - (j + 1) < D.all.length - j; omega), ⟨rfl, rfl, rfl, rfl, rfl, rfl, trivial⟩, List.Sublist.refl _, fun f hf => hf, rfl⟩
        ·
          first | (have h3 := of_decide_eq_true h3) | (have h3 := of_decide_eq_false h3) | skip
          obtain rfl : j = D.all.length := by omega
          rw [List.take_length] at hrm hsm
          have hrm : rm = D.room - D.used := hrm
          subst hrm
          refine J_exit ?_
          change J _ _ _ _
          refine J_seq ?_
          refine J_seq ?_
          refine J_region ?_
          refine L_v rfl rfl rfl (V_move rfl rfl) ?_
          refine L_v rfl rfl rfl (V_len rfl rfl Tryd.underlying22 rfl) ?_
          refine L_v rfl rfl rfl (V_move rfl rfl) ?_
          refine L_v rfl rfl rfl (V_gtr rfl rfl rfl rfl) ?_
          refine L_nil ?_
          change J _ _ _ _
          refine J_cond rfl (fun h4 => ?_) (fun h4 => ?_)
          ·
            first | (have h4 := of_decide_eq_true h4) | (have h4 := of_decide_eq_false h4) | skip
            have hx := appendE_2 (b := l) hd hi (by omega)
            refine J_seq ?_
            refine J_region ?_
            refine L_v rfl rfl rfl (V_assign rfl rfl) ?_
            refine L_nil ?_
            change J _ _ _ _
            refine J_ret ?_
            change Kret _ _ _ Exit.ret _
            refine ret1 rfl rfl (RV_t rfl) ?_
            exact fun w' h => RkP.no hG hx (appendD_no hx (by decide)) (UpdG.of h rfl (Pk.of_sub (List.Sublist.refl _)) (List.mem_cons_self ..) (.self (List.mem_singleton.2 rfl)))
          ·
            first | (have h4 := of_decide_eq_true h4) | (have h4 := of_decide_eq_false h4) | skip
            have hx := appendE_3 (b := l) hd hi (by omega)
            refine J_skip ?_
            change J _ _ _ _
            refine J_seq ?_
            refine J_region ?_
            refine L_v rfl rfl rfl (V_assign rfl rfl) ?_
            refine L_nil ?_
            change J _ _ _ _
            refine J_seq ?_
            refine J_region ?_
            refine L_v rfl rfl rfl (V_move rfl rfl) ?_
            refine L_v rfl rfl rfl (V_move rfl rfl) ?_
            refine L_v rfl rfl rfl (V_nilCheck rfl rfl) ?_
            refine L_v rfl rfl rfl (V_fieldAddr rfl rfl Tryd.underlying82 rfl sz78dl rfl) ?_
            refine L_v rfl rfl rfl (V_load1 0 rfl rfl rfl Tryd.underlying78 rfl (by rfl)) ?_
            refine L_v rfl rfl rfl (V_move rfl rfl) ?_
            refine L_v rfl rfl rfl (V_indexN rfl rfl rfl Tryd.underlying78 sz91dl hAt (by omega) (by omega)) ?_
            refine L_v rfl rfl rfl (V_fieldC rfl rfl (fun _ _ => hAt) Tryd.underlying91 rfl sz22dl rfl) ?_
            refine L_v rfl rfl rfl (V_loadC rfl rfl Tryd.underlying22 rfl (fun w hw => hG.b.slC (e := 91) hw (fun p hp => List.mem_cons_of_mem _ (List.mem_append_right _ hp))) (rboR_at hq 0 _ rfl)) ?_
            refine L_cons rfl (S_appendP (e := 5) (rkM b0 D H) [] none [] (n := 0) (m := (D.bo.getD i bo0).1.length) (news := dg (D.bo.getD i bo0).1) rfl rfl rfl rfl Tryd.underlying22 elU (List.append_nil _).symm ⟨rfl, rfl⟩ (fun w1 hw => src_bytes' Tryd.underlying22 (FA.of (FA.r (f := nmF H.sa H.sc D.sf) (hw.fa 0 rfl)) hin).1 rfl) (by omega) (by omega) (fun q1 hq1 => ?_))
            refine L_v rfl rfl rfl (V_assign rfl rfl) ?_
            refine L_nil ?_
            change J _ _ _ _
            refine J_seq ?_
            refine J_region ?_
            refine L_v rfl rfl rfl (V_move rfl rfl) ?_
            refine L_v rfl rfl rfl (V_move rfl rfl) ?_
            refine L_cons rfl (S_appendP (e := 5) (rkM b0 D H) [] q1 ([] ++ dg (D.bo.getD i bo0).1) (n := 0 + (D.bo.getD i bo0).1.length) (m := l.length) (news := dg l) rfl rfl rfl rfl Tryd.underlying22 elU rfl hq1 (fun w1 hw => src_bytes' Tryd.underlying22 (fB hw 1 rfl) rfl) (by omega) (by omega) (fun q2 hq2 => ?_))
            refine L_v rfl rfl rfl (V_assign rfl rfl) ?_
            refine L_nil ?_
            change J _ _ _ _
            refine J_seq ?_
            refine J_region ?_
            refine L_v rfl rfl rfl (V_move rfl rfl) ?_
            refine L_v rfl rfl rfl (V_nilCheck rfl rfl) ?_
            refine L_v rfl rfl rfl (V_fieldAddr rfl rfl Tryd.underlying82 rfl sz78dl rfl) ?_
            refine L_v rfl rfl rfl (V_load1 0 rfl rfl rfl Tryd.underlying78 rfl (by rfl)) ?_
            refine L_v rfl rfl rfl (V_move rfl rfl) ?_
            refine L_v rfl rfl rfl (V_move rfl rfl) ?_
            refine L_v rfl rfl rfl (V_indexN rfl rfl rfl Tryd.underlying78 sz91dl hAt (by omega) (by omega)) ?_
            refine L_v rfl rfl rfl (V_fieldC rfl rfl (fun _ _ => hAt) Tryd.underlying91 rfl sz22dl rfl) ?_
            refine L_cons rfl (S_storeP (e := 91) ((b0, row 82 (rkC D H)) :: pM 94 H.qc (chR D.ch)) (pM 5 q2 (([] ++ dg (D.bo.getD i bo0).1) ++ dg l)) H.qb (rboR H.bs) rfl rfl rfl rfl (by show (_ :: (_ ++ _)) ++ (_ ++ []) = _; simp only [List.cons_append, List.append_assoc, List.append_nil]) hG.b (by rw [rboR_len]; show i * 2 < _; omega) rfl sz22dl ?_)
            refine L_nil ?_
            change J _ _ _ _
            refine J_seq ?_
            have hlen : 0 + (D.bo.getD i bo0).1.length + l.length = ((D.bo.getD i bo0).1 ++ l).length := by rw [List.length_append, Nat.zero_add]
            have e8 : rboV ((((D.bo.getD i bo0).1 ++ l, (D.bo.getD i bo0).2), (pA q2, pC q2)) : RB) = (rboV ((D.bo.getD i bo0), q)).set 0 (pV q2 (0 + (D.bo.getD i bo0).1.length + l.length)) := by rw [hlen]; rfl
            have e7 : ([] ++ dg (D.bo.getD i bo0).1) ++ dg l = dg ((D.bo.getD i bo0).1 ++ l) := List.map_append.symm
            refine J_pk (rkM b0 (D.setB i ((D.bo.getD i bo0).1 ++ l, (D.bo.getD i bo0).2)) { H with bs := H.bs.set i ((((D.bo.getD i bo0).1 ++ l, (D.bo.getD i bo0).2), (pA q2, pC q2)) : RB) } ++ pM 5 q2 (([] ++ dg (D.bo.getD i bo0).1) ++ dg l)) (Pk.of_sub (by rw [rset_M b0 D H (y := ((((D.bo.getD i bo0).1 ++ l, (D.bo.getD i bo0).2), (pA q2, pC q2)) : RB)) hq (k := 0) (v := pV q2 (0 + (D.bo.getD i bo0).1.length + l.length)) (by decide) e8]; show List.Sublist ((_ :: (_ ++ _)) ++ _) ((_ :: _) ++ (_ ++ _)); rw [List.cons_append, List.append_assoc, List.cons_append]; exact List.Sublist.refl _)) ?_
            rw [hlen, e7] at hq2
            refine J_toFactQ (sz := 1) (n := ((D.bo.getD i bo0).1 ++ l).length) (rkM b0 (D.setB i ((D.bo.getD i bo0).1 ++ l, (D.bo.getD i bo0).2)) { H with bs := H.bs.set i ((((D.bo.getD i bo0).1 ++ l, (D.bo.getD i bo0).2), (pA q2, pC q2)) : RB) }) q2 (dg ((D.bo.getD i bo0).1 ++ l)) (by show _ ++ pM _ _ (([] ++ dg _) ++ dg _) = _; rw [e7]) hq2 (fun hnew => ?_)
            have hon : ON [rkF D H] w.heap.size (rkF (Dk.step (D.setB i ((D.bo.getD i bo0).1 ++ l, (D.bo.getD i bo0).2))) { H with bs := H.bs.set i ((((D.bo.getD i bo0).1 ++ l, (D.bo.getD i bo0).2), (pA q2, pC q2)) : RB) }) := fun k hk => by
              rcases rappd_fp (D := D) (H := H) (i := i) (y := ((((D.bo.getD i bo0).1 ++ l, (D.bo.getD i bo0).2), (pA q2, pC q2)) : RB)) hk with h1 | h1
              · exact .inl ⟨_, List.mem_singleton.2 rfl, h1⟩
              · obtain ⟨h2, h3⟩ := hnew k (factB_C h1)
                refine .inr (h2.resolve_right fun h4 => h3 ?_)
                have e5 : (rkM b0 (D.setB i ((D.bo.getD i bo0).1 ++ l, (D.bo.getD i bo0).2)) { H with bs := H.bs.set i ((((D.bo.getD i bo0).1 ++ l, (D.bo.getD i bo0).2), (pA q2, pC q2)) : RB) }).map (·.1) = (rkM b0 D H).map (·.1) := by show b0 :: (pM _ _ _ ++ pM _ _ _).map _ = b0 :: (pM _ _ _ ++ pM _ _ _).map _; rw [List.map_append, List.map_append, pM_fst 91 H.qb _ (rboR H.bs)]; rfl
                rw [e5]
                exact h4
            refine J_deriv (rkF (D.setB i ((D.bo.getD i bo0).1 ++ l, (D.bo.getD i bo0).2)) { H with bs := H.bs.set i ((((D.bo.getD i bo0).1 ++ l, (D.bo.getD i bo0).2), (pA q2, pC q2)) : RB) }) (fun w hw => rappd_p (x := ((D.bo.getD i bo0), q)) (y := ((((D.bo.getD i bo0).1 ++ l, (D.bo.getD i bo0).2), (pA q2, pC q2)) : RB)) (hw.fa 0 rfl).1 (SlC.toB' (hw.fa 3 rfl).1)) (fun k hk => (rappd_fp (y := ((((D.bo.getD i bo0).1 ++ l, (D.bo.getD i bo0).2), (pA q2, pC q2)) : RB)) hk).elim (fun h => ⟨rkF D H, List.mem_append_left _ (List.mem_cons_self ..), h⟩) (fun h => ⟨_, List.mem_append_right _ (List.mem_singleton.2 rfl), factB_C h⟩)) ?_
            refine J_region ?_
            refine L_v rfl rfl rfl (V_move rfl rfl) ?_
            refine L_call rfl rfl rfl rfl tx60dl (fun w1 hw => (rstep_w b0 (D.setB i ((D.bo.getD i bo0).1 ++ l, (D.bo.getD i bo0).2)) { H with bs := H.bs.set i ((((D.bo.getD i bo0).1 ++ l, (D.bo.getD i bo0).2), (pA q2, pC q2)) : RB) } w1 (hw.at (i := 0) rfl) (fun hs => hW.lf hs hd)).mono ?_)
            rintro e w' ⟨rfl, hfr, hb'⟩
            refine ⟨_, _, _, rfl, hw.set (i := 0) rfl hfr hb', rfl, ?_⟩
            refine L_v rfl rfl rfl (V_assign rfl rfl) ?_
            refine L_nil ?_
            change J _ _ _ _
            refine J_ret ?_
            change Kret _ _ _ Exit.ret _
            refine ret1 rfl rfl (RV_t rfl) ?_
            exact fun w' h => RkP.ok hx (appendD_0 hx hi) (H1 := { H with bs := H.bs.set i ((((D.bo.getD i bo0).1 ++ l, (D.bo.getD i bo0).2), (pA q2, pC q2)) : RB) }) (rsetB_good (x := ((D.bo.getD i bo0).1 ++ l, (D.bo.getD i bo0).2)) (q := (pA q2, pC q2)) hG hq2.le |>.same rfl rfl) (UpdG.of h rfl (Pk.of_sub (List.Sublist.refl _)) (List.mem_append_right _ (List.mem_singleton.2 rfl)) hon)
  ·
    refine J_seq ?_
    refine J_region ?_
    refine L_v rfl rfl rfl (V_assign rfl rfl) ?_
    refine L_nil ?_
    change J _ _ _ _
    refine J_seq ?_
    refine J_region ?_
    refine L_v rfl rfl rfl (V_move rfl rfl) ?_
    refine L_v rfl rfl rfl (V_move rfl rfl) ?_
    refine L_callV rfl rfl rfl rfl rfl rfl tx57dl (fun w1 hw => body_w b0 D H f w1 (hw.memAt (List.Sublist.refl _)) hG (hw.fa 0 rfl) hW (by have := hW.n2; omega)) ?_
    refine L_v rfl rfl rfl (V_assign rfl rfl) ?_
    refine L_nil ?_
    change J _ _ _ _
    refine J_seq ?_
    refine J_block ?_
    refine J_seq ?_
    refine J_region ?_
    refine L_v rfl rfl rfl (V_move rfl rfl) ?_
    refine L_v rfl rfl rfl (V_nilCheck rfl rfl) ?_
    refine L_v rfl rfl rfl (V_fieldAddr rfl rfl Tryd.underlying82 rfl sz4dl rfl) ?_
    refine L_v rfl rfl rfl (V_load1 0 rfl rfl rfl Tryd.underlying4 rfl (by rfl)) ?_
    refine L_v rfl rfl rfl (V_assign rfl rfl) ?_
    refine L_nil ?_
    change J _ _ _ _
    refine J_cond rfl (fun h1 => ?_) (fun h1 => ?_)
    ·
      first | (have h1 := of_decide_eq_true h1) | (have h1 := of_decide_eq_false h1) | skip
      have hd : D.down = true := h1
      refine J_seq ?_
      refine J_region ?_
      refine L_v rfl rfl rfl (V_assign rfl rfl) ?_
      refine L_nil ?_
      change J _ _ _ _
      refine J_ret ?_
      change Kret _ _ _ Exit.ret _
      refine ret1 rfl rfl (RV_t rfl) ?_
      exact fun w' h => RkP.no hG ((appendE_1 (by rw [nameE_1 hd]; decide)).trans (nameE_1 hd)) (appendD_no ((appendE_1 (by rw [nameE_1 hd]; decide)).trans (nameE_1 hd)) (by decide)) (UpdG.of h rfl (Pk.of_sub (List.Sublist.refl _)) (List.mem_cons_self ..) (.self (List.mem_singleton.2 rfl)))
    ·
      first | (have h1 := of_decide_eq_true h1) | (have h1 := of_decide_eq_false h1) | skip
      have hd : D.down = false := h1
      refine J_seq ?_
      refine J_region ?_
      refine L_v rfl rfl rfl (V_move rfl rfl) ?_
      refine L_v rfl rfl rfl (V_lss rfl rfl rfl rfl) ?_
      refine L_v rfl rfl rfl (V_assign rfl rfl) ?_
      refine L_nil ?_
      change J _ _ _ _
      refine J_cond rfl (fun h2 => ?_) (fun h2 => ?_)
      ·
        first | (have h2 := of_decide_eq_true h2) | (have h2 := of_decide_eq_false h2) | skip
        have h2 := bodyV_T.1 h2
        refine J_seq ?_
        refine J_region ?_
        refine L_v rfl rfl rfl (V_assign rfl rfl) ?_
        refine L_nil ?_
        change J _ _ _ _
        refine J_ret ?_
        change Kret _ _ _ Exit.ret _
        refine ret1 rfl rfl (RV_t rfl) ?_
        exact fun w' h => RkP.no hG ((appendE_1 (by rw [nameE_2 hd h2]; decide)).trans (nameE_2 hd h2)) (appendD_no ((appendE_1 (by rw [nameE_2 hd h2]; decide)).trans (nameE_2 hd h2)) (by decide)) (UpdG.of h rfl (Pk.of_sub (List.Sublist.refl _)) (List.mem_cons_self ..) (.self (List.mem_singleton.2 rfl)))
      ·
        first | (have h2 := of_decide_eq_true h2) | (have h2 := of_decide_eq_false h2) | skip
        obtain ⟨i, hi, _⟩ := bodyV_F h2; exact absurd (nameE_3 hd hi) hE

end Go.Proofs.YtcbpgnjlbbjieaaDoor
