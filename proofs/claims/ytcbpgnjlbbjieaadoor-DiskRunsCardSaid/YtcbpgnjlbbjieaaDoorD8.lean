/- The document's disk: names put in; all names; a name's body. -/
import Derived.Test.YtcbpgnjlbbjieaaDoorD7
set_option linter.unusedVariables false
set_option linter.unusedSimpArgs false
set_option maxRecDepth 100000
namespace Go.Proofs.YtcbpgnjlbbjieaaDoor
open Go.Sx
/-- So far a name is put in, or not yet. -/
def WiI (n : Nm) (T : List Nm) (inn : Bool) (out : List Nm) : Prop :=
  (inn = false → out = T ∧ ∀ x ∈ T, ltS n.1 x.1 = false) ∧ (inn = true → ∃ A x B, T = A ++ x :: B ∧ (∀ y ∈ A, ltS n.1 y.1 = false) ∧ ltS n.1 x.1 = true ∧ out = A ++ n :: x :: B)
theorem WiI.start (n : Nm) : WiI n [] false [] := ⟨fun _ => ⟨rfl, fun x hx => by cases hx⟩, fun h => by cases h⟩
theorem WiI.hit {n x : Nm} {T out : List Nm} (h : WiI n T false out) (hx : ltS n.1 x.1 = true) : WiI n (T ++ [x]) true ((out ++ [n]) ++ [x]) := by
  obtain ⟨rfl, h2⟩ := h.1 rfl
  exact ⟨fun h => (by cases h), fun _ => ⟨out, x, [], rfl, h2, hx, by rw [List.append_assoc]; rfl⟩⟩
theorem WiI.go {n x : Nm} {T out : List Nm} {inn : Bool} (h : WiI n T inn out) (hx : (!inn && ltS n.1 x.1) = false) : WiI n (T ++ [x]) inn (out ++ [x]) := by
  cases inn with
  | false =>
    obtain ⟨rfl, h2⟩ := h.1 rfl
    have hx : ltS n.1 x.1 = false := by simpa using hx
    refine ⟨fun _ => ⟨rfl, fun y hy => ?_⟩, fun h => (by cases h)⟩
    rcases List.mem_append.1 hy with h3 | h3
    · exact h2 y h3
    · obtain rfl := List.mem_singleton.1 h3
      exact hx
  | true =>
    obtain ⟨A, y, B, rfl, h2, h3, rfl⟩ := h.2 rfl
    exact ⟨fun h => (by cases h), fun _ => ⟨A, y, B ++ [x], by simp, h2, h3, by simp⟩⟩
theorem WiI.end0 {n : Nm} {T out : List Nm} (h : WiI n T false out) : out ++ [n] = insN n T := by
  obtain ⟨rfl, h2⟩ := h.1 rfl
  exact (ins_no h2).symm
theorem WiI.end1 {n : Nm} {T out : List Nm} (h : WiI n T true out) : out = insN n T := by
  obtain ⟨A, y, B, rfl, h2, h3, rfl⟩ := h.2 rfl
  exact (ins_hit h3 h2).symm
/-- Where the document's disk lies. -/
structure RkH where
  qb : OwnP
  qc : OwnP
  sa : Option Addr
  sc : Nat
  bs : List (Bo × (Option Addr × Nat))
abbrev rboV (x : Bo × (Option Addr × Nat)) : List Value := [.slice x.2.1 x.1.1.length x.2.2, .int .i64 x.1.2]
abbrev rboR (l : List (Bo × (Option Addr × Nat))) : List Value := (l.map rboV).flatten
abbrev rbF (x : Bo × (Option Addr × Nat)) : Fact := factB (.slice x.2.1 x.1.1.length x.2.2) x.1.1
abbrev rkT (room : Int) (bo sf ch : Value) (down stops : Bool) (left : Int) : List Value := [.int .i64 room, bo, sf, ch, .bool down, .bool stops, .int .i64 left]
abbrev rkC (D : Dk) (H : RkH) : List Value := rkT D.room (pV H.qb H.bs.length) (.slice H.sa D.sf.length H.sc) (pV H.qc D.ch.length) D.down D.stops D.left
abbrev rkM (m : Nat) (D : Dk) (H : RkH) : Mem := (m, row 82 (rkC D H)) :: (pM 94 H.qc (chR D.ch) ++ pM 91 H.qb (rboR H.bs))
def rkF (D : Dk) (H : RkH) : Fact := andF (nmF H.sa H.sc D.sf) (allF (H.bs.map rbF))
structure GoodR (D : Dk) (H : RkH) : Prop where
  c : PC 3 H.qc D.ch.length (chR D.ch)
  b : PC 2 H.qb H.bs.length (rboR H.bs)
  l : H.bs.map Prod.fst = D.bo
  k : ∀ x ∈ H.bs, x.1.1.length ≤ x.2.2
theorem GoodR.same {D D' : Dk} {H : RkH} (h : GoodR D H) (e1 : D'.ch = D.ch) (e3 : D'.bo = D.bo) : GoodR D' H := ⟨e1 ▸ h.c, h.b, e3 ▸ h.l, h.k⟩
/-- What a call comes to that turns the document's disk into that one. -/
def RkP (m : Nat) (D : Dk) (H : RkH) (w : World) (D' : Dk) (v : Value) : Ending → World → Prop := fun e w' => ∃ H', e = .returned v ∧ GoodR D' H' ∧ UpdG (rkM m D H) [rkF D H] w w' (rkM m D' H') (rkF D' H')
def bodyV (D : Dk) (f : ByteArray) : Int := match D.find f with
  | none => -1
  | some i => (i : Int)
theorem bodyV_no {D : Dk} {f : ByteArray} {i : Nat} (hi : D.all.length ≤ i) (h : ∀ j, j < i → (D.all.getD j (e0, 0)).1 ≠ f) : bodyV D f = -1 := by
  have h1 : D.find f = none := getN_none.2 fun p hp => by
    obtain ⟨j, hj, rfl⟩ := List.mem_iff_getElem.1 hp
    have := h j (by omega)
    rwa [List.getD_eq_getElem?_getD, List.getElem?_eq_getElem hj] at this
  unfold bodyV
  rw [h1]
theorem bodyV_yes {D : Dk} {k : Nat} (hW : WfD D k) {f : ByteArray} {i : Nat} (hi : i < D.all.length) (h : (D.all.getD i (e0, 0)).1 = f) : bodyV D f = (D.all.getD i (e0, 0)).2 := by
  have h1 : D.find f = some (D.all.getD i (e0, 0)).2 := (getN_some hW.asrt.nodup).2 (by rw [← h]; exact getD_mem hi)
  unfold bodyV
  rw [h1]
theorem WI_len {n : Nm} {R out : List Nm} {i : Nat} {inn : Bool} (h : WiI n (R.take i) inn out) (hol : out.length ≤ i + 1) (hi : i < R.length) : out.length + 1 ≤ i + 1 + 1 := by omega
theorem sz9dh : (Tryd.prog.info? 9).map (·.size) = some 1 := by kernel_rfl
theorem sz96dh : (Tryd.prog.info? 96).map (·.size) = some 2 := by kernel_rfl
theorem tx72dh : Txt Tryd.prog 72 := txt_of Tryd.func72 rfl (by kernel_rfl)

set_option maxHeartbeats 2000000 in
theorem with_w (a : Option Addr) (c : Nat) (l : List Nm) (n : Nm) (w : World) (hs : SlC 2 w (.slice a l.length c) l.length (nmR l)) (hl : l.length ≤ 549755813888) :
    Calls Tryd.prog 73 #[.slice a l.length c, .agg (nmC n).toArray] w fun e w' => LsP (wiN l n) w e w' := by
  refine calls_of (args := [.slice a l.length c, .agg (nmC n).toArray]) ([]) ([]) ([nmF a c l]) Tryd.func73 rfl rfl (okFW (.cons (.slc hs) .nil)) ?_
  refine J_seq ?_
  refine J_region ?_
  refine L_box rfl rfl rfl rfl rfl (fun b0 => ?_)
  refine L_v rfl rfl rfl (V_assign rfl rfl) ?_
  refine L_nil ?_
  change J _ _ _ _
  refine J_seq ?_
  refine J_region ?_
  refine L_v rfl rfl rfl (V_move rfl rfl) ?_
  refine L_v rfl rfl rfl (V_fieldAddr rfl rfl Tryd.underlying96 rfl sz9dh rfl) ?_
  refine L_v rfl rfl rfl (V_load1 0 rfl rfl rfl Tryd.underlying9 rfl (by rfl)) ?_
  refine L_call rfl rfl rfl rfl tx72dh (fun w1 hw => (without_w a c l n.1 w1 (hw.fa 0 rfl).1 (by omega)).mono ?_)
  rintro e w' ⟨q0, rfl, hq0, hU⟩
  refine ⟨_, _, _, rfl, hw.addL hU.fr hU.newL, rfl, ?_⟩
  have hrl := delN_len l n.1
  refine L_v rfl rfl rfl (V_assign rfl rfl) ?_
  refine L_nil ?_
  change J _ _ _ _
  refine J_seq ?_
  refine J_region ?_
  refine L_v rfl rfl rfl (V_assign rfl rfl) ?_
  refine L_nil ?_
  change J _ _ _ _
  refine J_seq ?_
  refine J_region ?_
  refine L_v rfl rfl rfl (V_assign rfl rfl) ?_
  refine L_nil ?_
  change J _ _ _ _
  refine J_seq ?_
  refine J_seq ?_
  refine J_region ?_
  refine L_v rfl rfl rfl (V_assign rfl rfl) ?_
  refine L_nil ?_
  change J _ _ _ _
  refine J_block ?_
  refine J_loop (X := Nat × OwnP × Bool × List Nm) (fun x => { env := [(3, .pointer (some ⟨b0, 0, none⟩)), (5, pV q0 (delN l n.1).length), (6, pV x.2.1 x.2.2.2.length), (7, .bool x.2.2.1), (8, .int .i64 (x.1 : Int))], mem := (b0, row 96 (nmC n)) :: (pM 96 q0 (nmR (delN l n.1)) ++ pM 96 x.2.1 (nmR x.2.2.2)), facts := [] }) (fun x => x.1 ≤ (delN l n.1).length ∧ PC 2 x.2.1 x.2.2.2.length (nmR x.2.2.2) ∧ x.2.2.2.length ≤ x.1 + 1 ∧ WiI n ((delN l n.1).take x.1) x.2.2.1 x.2.2.2) (fun x => (delN l n.1).length - x.1) (0, none, false, []) ⟨Nat.zero_le _, ⟨rfl, rfl⟩, Nat.zero_le _, WiI.start n⟩ ⟨⟨rfl, rfl, rfl, rfl, rfl, trivial⟩, (by show List.Sublist (_ :: (_ ++ [])) (_ :: _); rw [List.append_nil]; exact List.Sublist.refl _), fun f hf => (by cases hf), rfl⟩ ?_
  rintro ⟨i, q, inn, out⟩ ⟨hil, hq, hol, hwi⟩
  try simp only at hil hq hol hwi ⊢
  refine J_seq ?_
  refine J_seq ?_
  refine J_region ?_
  refine L_v rfl rfl rfl (V_move rfl rfl) ?_
  refine L_v rfl rfl rfl (V_move rfl rfl) ?_
  refine L_v rfl rfl rfl (V_len rfl rfl Tryd.underlying79 rfl) ?_
  refine L_v rfl rfl rfl (V_lss rfl rfl rfl rfl) ?_
  refine L_nil ?_
  change J _ _ _ _
  refine J_cond rfl (fun h1 => ?_) (fun h1 => ?_)
  ·
    first | (have h1 := of_decide_eq_true h1) | (have h1 := of_decide_eq_false h1) | skip
    have hi : i < (delN l n.1).length := by omega
    refine J_skip ?_
    change J _ _ _ _
    refine J_seq ?_
    refine J_block ?_
    refine J_seq ?_
    refine J_seq ?_
    refine J_regionQ rfl (by kernel_rfl) ?_
    refine LQ_v rfl rfl rfl (V_move rfl rfl) ?_
    refine LQ_v rfl rfl rfl (V_not rfl rfl rfl) ?_
    refine LQ_v rfl rfl rfl (V_move rfl rfl) ?_
    apply LQ_and 8 21 30
    · rfl
    · rfl
    · rfl
    · rfl
    · rfl
    · rfl
    · rfl
    · kernel_rfl
    · intro hb2 _ _ hk2
      refine LQ_wv rfl rfl rfl rfl rfl rfl (V_fieldAddr rfl rfl Tryd.underlying96 rfl sz9dh rfl) ?_
      refine LQ_wv rfl rfl rfl rfl rfl rfl (V_load1 0 rfl rfl rfl Tryd.underlying9 rfl (by rfl)) ?_
      refine LQ_wv rfl rfl rfl rfl rfl rfl (V_move rfl rfl) ?_
      refine LQ_wv rfl rfl rfl rfl rfl rfl (V_move rfl rfl) ?_
      refine LQ_wv rfl rfl rfl rfl rfl rfl (V_indexN rfl rfl rfl Tryd.underlying79 sz96dh (hq0.at (by omega)) (by omega) (by omega)) ?_
      refine LQ_wv rfl rfl rfl rfl rfl rfl (V_fieldC rfl rfl (fun _ _ => hq0.at (by omega)) Tryd.underlying96 rfl sz9dh rfl) ?_
      refine LQ_wv rfl rfl rfl rfl rfl rfl (V_loadC rfl rfl Tryd.underlying9 rfl (fun w hw => hq0.slC (e := 96) hw (fun p hp => List.mem_cons_of_mem _ (List.mem_append_left _ hp))) (nmR_at hi 0 _ rfl)) ?_
      refine LQ_wv rfl rfl rfl rfl rfl rfl (V_lssS rfl rfl rfl rfl) ?_
      exact hk2 _ ⟨rfl, (by first | simp only [St.put] | rfl), ext_cut 8 (by kernel_rfl) (by kernel_rfl)⟩
    refine LQ_nil ?_
    change J _ _ _ _
    refine J_cond rfl (fun h3 => ?_) (fun h3 => ?_)
    ·
      first | (have h3 := of_decide_eq_true h3) | (have h3 := of_decide_eq_false h3) | skip
      rw [Bool.and_eq_true, Bool.not_eq_true'] at h3
      obtain ⟨hin, hlt⟩ := h3
      refine J_seq ?_
      refine J_region ?_
      refine L_v rfl rfl rfl (V_move rfl rfl) ?_
      refine L_v rfl rfl rfl (V_loadT 0 (vs := nmC n) rfl rfl rfl Tryd.underlying96 rfl sz96dh (by kernel_rfl) (by kernel_rfl)) ?_
      refine L_buildSlice (e := 96) (vs := [(0, .agg (nmC n).toArray)]) (l := nmC n) rfl rfl rfl rfl rfl (bsN _) (fun b8 => ?_)
      refine L_cons rfl (S_appendP (e := 96) ((b0, row 96 (nmC n)) :: pM 96 q0 (nmR (delN l n.1))) [(b8, row 96 (nmC n))] q (nmR out) (n := out.length) (m := 1) (news := nmC n) rfl rfl rfl rfl Tryd.underlying79 elN (by show (_ :: (_ ++ _)) ++ [_] = _; simp only [List.cons_append, List.append_assoc, List.nil_append]) hq (fun w1 hw => src_C Tryd.underlying79 (SlC.in (r := []) (fz := (0, 0)) hw (List.mem_append_right _ (List.mem_singleton.2 rfl)) rfl 1) (all_one (by kernel_rfl))) (by omega) (by omega) (fun q' hq' => ?_))
      refine L_v rfl rfl rfl (V_assign rfl rfl) ?_
      refine L_nil ?_
      change J _ _ _ _
      refine J_region ?_
      refine L_v rfl rfl rfl (V_assign rfl rfl) ?_
      refine L_nil ?_
      change J _ _ _ _
      refine J_region ?_
      refine L_v rfl rfl rfl (V_move rfl rfl) ?_
      refine L_v rfl rfl rfl (V_move rfl rfl) ?_
      refine L_v rfl rfl rfl (V_move rfl rfl) ?_
      refine L_v rfl rfl rfl (V_indexN rfl rfl rfl Tryd.underlying79 sz96dh (hq0.at (by omega)) (by omega) (by omega)) ?_
      refine L_v rfl rfl rfl (V_loadCN (vs := nmC ((delN l n.1).getD i (e0, 0))) rfl rfl Tryd.underlying96 rfl (szd sz96dh (by kernel_rfl)) (fun w hw => hq0.slC (e := 96) hw (fun p hp => List.mem_cons_of_mem _ (List.mem_append_left _ hp))) (by exact Nat.zero_lt_succ _) (nmR_at hi)) ?_
      refine L_buildSlice (e := 96) (vs := [(0, .agg (nmC ((delN l n.1).getD i (e0, 0))).toArray)]) (l := nmC ((delN l n.1).getD i (e0, 0))) rfl rfl rfl rfl rfl (bsN _) (fun b9 => ?_)
      refine L_cons rfl (S_appendP (e := 96) ((b0, row 96 (nmC n)) :: pM 96 q0 (nmR (delN l n.1))) [(b8, row 96 (nmC n)), (b9, row 96 (nmC ((delN l n.1).getD i (e0, 0))))] q' (nmR out ++ nmC n) (n := (out.length + 1)) (m := 1) (news := nmC ((delN l n.1).getD i (e0, 0))) rfl rfl rfl rfl Tryd.underlying79 elN (by show ((_ :: _) ++ (_ ++ [_])) ++ [_] = _; simp only [List.cons_append, List.append_assoc, List.nil_append]) hq' (fun w1 hw => src_C Tryd.underlying79 (SlC.in (r := []) (fz := (0, 0)) hw (List.mem_append_right _ (List.mem_singleton.2 rfl)) rfl 1) (all_one (by kernel_rfl))) (by omega) (by omega) (fun q'' hq'' => ?_))
      refine L_v rfl rfl rfl (V_assign rfl rfl) ?_
      refine L_nil ?_
      change J _ _ _ _
      refine J_region ?_
      refine L_v rfl rfl rfl (V_move rfl rfl) ?_
      refine L_v rfl rfl rfl (V_add (r := ((i + 1 : Nat) : Int)) rfl rfl rfl (by rw [IntKind.wrap_i64]; omega)) ?_
      refine L_v rfl rfl rfl (V_assign rfl rfl) ?_
      refine L_nil ?_
      have e8 : nmR ((out ++ [n]) ++ [(delN l n.1).getD i (e0, 0)]) = (nmR out ++ nmC n) ++ nmC ((delN l n.1).getD i (e0, 0)) := by simp only [nmR_app]; rfl
      have e7 : ((out ++ [n]) ++ [(delN l n.1).getD i (e0, 0)]).length = out.length + 1 + 1 := by simp only [List.length_append, List.length_singleton]
      exact ⟨(i + 1, q'', true, ((out ++ [n]) ++ [(delN l n.1).getD i (e0, 0)])), ⟨by show i + 1 ≤ _; omega, by show PC 2 q'' ((out ++ [n]) ++ [(delN l n.1).getD i (e0, 0)]).length (nmR ((out ++ [n]) ++ [(delN l n.1).getD i (e0, 0)])); rw [e8, e7]; exact hq'', by show ((out ++ [n]) ++ [(delN l n.1).getD i (e0, 0)]).length ≤ _; rw [e7]; rw [hin] at hwi; have := (hwi.1 rfl).1; have := congrArg List.length this; rw [List.length_take] at this; omega, by show WiI n ((delN l n.1).take (i + 1)) _ _; rw [take_s (e0, 0) hi]; exact WiI.hit (hin ▸ hwi) hlt⟩, by show (delN l n.1).length - (i + 1) < (delN l n.1).length - i; omega, ⟨rfl, rfl, (by show _ = some (pV q'' ((out ++ [n]) ++ [(delN l n.1).getD i (e0, 0)]).length); rw [e7]; rfl), rfl, rfl, trivial⟩, (by
        show List.Sublist ((b0, row 96 (nmC n)) :: (pM 96 q0 _ ++ pM 96 q'' (nmR ((out ++ [n]) ++ [(delN l n.1).getD i (e0, 0)])))) ((_ :: _) ++ (pM _ _ _ ++ _))
        rw [e8]
        exact List.Sublist.cons_cons _ (List.Sublist.append (List.Sublist.refl _) (List.sublist_append_left _ _))), fun f hf => (by cases hf), rfl⟩
    ·
      first | (have h3 := of_decide_eq_true h3) | (have h3 := of_decide_eq_false h3) | skip
      refine J_skip ?_
      change J _ _ _ _
      refine J_region ?_
      refine L_v rfl rfl rfl (V_move rfl rfl) ?_
      refine L_v rfl rfl rfl (V_move rfl rfl) ?_
      refine L_v rfl rfl rfl (V_move rfl rfl) ?_
      refine L_v rfl rfl rfl (V_indexN rfl rfl rfl Tryd.underlying79 sz96dh (hq0.at (by omega)) (by omega) (by omega)) ?_
      refine L_v rfl rfl rfl (V_loadCN (vs := nmC ((delN l n.1).getD i (e0, 0))) rfl rfl Tryd.underlying96 rfl (szd sz96dh (by kernel_rfl)) (fun w hw => hq0.slC (e := 96) hw (fun p hp => List.mem_cons_of_mem _ (List.mem_append_left _ hp))) (by exact Nat.zero_lt_succ _) (nmR_at hi)) ?_
      refine L_buildSlice (e := 96) (vs := [(0, .agg (nmC ((delN l n.1).getD i (e0, 0))).toArray)]) (l := nmC ((delN l n.1).getD i (e0, 0))) rfl rfl rfl rfl rfl (bsN _) (fun b9 => ?_)
      refine L_cons rfl (S_appendP (e := 96) ((b0, row 96 (nmC n)) :: pM 96 q0 (nmR (delN l n.1))) [(b9, row 96 (nmC ((delN l n.1).getD i (e0, 0))))] q (nmR out) (n := out.length) (m := 1) (news := nmC ((delN l n.1).getD i (e0, 0))) rfl rfl rfl rfl Tryd.underlying79 elN (by show (_ :: (_ ++ _)) ++ [_] = _; simp only [List.cons_append, List.append_assoc, List.nil_append]) hq (fun w1 hw => src_C Tryd.underlying79 (SlC.in (r := []) (fz := (0, 0)) hw (List.mem_append_right _ (List.mem_singleton.2 rfl)) rfl 1) (all_one (by kernel_rfl))) (by omega) (by omega) (fun q'' hq'' => ?_))
      refine L_v rfl rfl rfl (V_assign rfl rfl) ?_
      refine L_nil ?_
      change J _ _ _ _
      refine J_region ?_
      refine L_v rfl rfl rfl (V_move rfl rfl) ?_
      refine L_v rfl rfl rfl (V_add (r := ((i + 1 : Nat) : Int)) rfl rfl rfl (by rw [IntKind.wrap_i64]; omega)) ?_
      refine L_v rfl rfl rfl (V_assign rfl rfl) ?_
      refine L_nil ?_
      have e8 : nmR (out ++ [(delN l n.1).getD i (e0, 0)]) = nmR out ++ nmC ((delN l n.1).getD i (e0, 0)) := by simp only [nmR_app]; rfl
      have e7 : (out ++ [(delN l n.1).getD i (e0, 0)]).length = out.length + 1 := by simp only [List.length_append, List.length_singleton]
      exact ⟨(i + 1, q'', inn, (out ++ [(delN l n.1).getD i (e0, 0)])), ⟨by show i + 1 ≤ _; omega, by show PC 2 q'' (out ++ [(delN l n.1).getD i (e0, 0)]).length (nmR (out ++ [(delN l n.1).getD i (e0, 0)])); rw [e8, e7]; exact hq'', by show (out ++ [(delN l n.1).getD i (e0, 0)]).length ≤ _; rw [e7]; exact WI_len hwi hol hi, by show WiI n ((delN l n.1).take (i + 1)) _ _; rw [take_s (e0, 0) hi]; exact hwi.go h3⟩, by show (delN l n.1).length - (i + 1) < (delN l n.1).length - i; omega, ⟨rfl, rfl, (by show _ = some (pV q'' (out ++ [(delN l n.1).getD i (e0, 0)]).length); rw [e7]; rfl), rfl, rfl, trivial⟩, (by
        show List.Sublist ((b0, row 96 (nmC n)) :: (pM 96 q0 _ ++ pM 96 q'' (nmR (out ++ [(delN l n.1).getD i (e0, 0)])))) ((_ :: _) ++ (pM _ _ _ ++ _))
        rw [e8]
        exact List.Sublist.cons_cons _ (List.Sublist.append (List.Sublist.refl _) (List.sublist_append_left _ _))), fun f hf => (by cases hf), rfl⟩
  ·
    first | (have h1 := of_decide_eq_true h1) | (have h1 := of_decide_eq_false h1) | skip
    obtain rfl : i = (delN l n.1).length := by omega
    rw [List.take_length] at hwi
    refine J_exit ?_
    change J _ _ _ _
    refine J_seq ?_
    refine J_seq ?_
    refine J_region ?_
    refine L_v rfl rfl rfl (V_move rfl rfl) ?_
    refine L_v rfl rfl rfl (V_not rfl rfl rfl) ?_
    refine L_nil ?_
    change J _ _ _ _
    refine J_cond rfl (fun h2 => ?_) (fun h2 => ?_)
    ·
      first | (have h2 := of_decide_eq_true h2) | (have h2 := of_decide_eq_false h2) | skip
      have hin : inn = false := by simpa using h2
      rw [hin] at hwi
      have e9 := hwi.end0
      refine J_region ?_
      refine L_v rfl rfl rfl (V_move rfl rfl) ?_
      refine L_v rfl rfl rfl (V_loadT 0 (vs := nmC n) rfl rfl rfl Tryd.underlying96 rfl sz96dh (by kernel_rfl) (by kernel_rfl)) ?_
      refine L_buildSlice (e := 96) (vs := [(0, .agg (nmC n).toArray)]) (l := nmC n) rfl rfl rfl rfl rfl (bsN _) (fun b7 => ?_)
      refine L_cons rfl (S_appendP (e := 96) ((b0, row 96 (nmC n)) :: pM 96 q0 (nmR (delN l n.1))) [(b7, row 96 (nmC n))] q (nmR out) (n := out.length) (m := 1) (news := nmC n) rfl rfl rfl rfl Tryd.underlying79 elN (by show (_ :: (_ ++ _)) ++ [_] = _; simp only [List.cons_append, List.append_assoc, List.nil_append]) hq (fun w1 hw => src_C Tryd.underlying79 (SlC.in (r := []) (fz := (0, 0)) hw (List.mem_append_right _ (List.mem_singleton.2 rfl)) rfl 1) (all_one (by kernel_rfl))) (by omega) (by omega) (fun q' hq' => ?_))
      refine L_v rfl rfl rfl (V_assign rfl rfl) ?_
      refine L_nil ?_
      change J _ _ _ _
      refine J_seq ?_
      refine J_region ?_
      refine L_v rfl rfl rfl (V_move rfl rfl) ?_
      refine L_v rfl rfl rfl (V_assign rfl rfl) ?_
      refine L_nil ?_
      change J _ _ _ _
      refine J_ret ?_
      change Kret _ _ _ Exit.ret _
      refine ret1 rfl rfl (RV_t rfl) ?_
      have e8 : nmR (out ++ [n]) = nmR out ++ nmC n := by rw [nmR_app]; rfl
      have e7 : (out ++ [n]).length = out.length + 1 := by rw [List.length_append]; rfl
      rw [← e8, ← e7] at hq'
      unfold wiN
      rw [← e9]
      exact fun w' h => ⟨q', by rw [e7], hq', Upd.of h rfl (Pk.of_sub (by rw [e8]; exact show List.Sublist (pM 96 q' _) ((_ :: pM _ _ _) ++ (pM 96 q' _ ++ _)) from (List.sublist_append_left _ _).trans (List.sublist_append_right _ _))) (fun f hf => by cases hf) (fun f hf => by cases hf)⟩
    ·
      first | (have h2 := of_decide_eq_true h2) | (have h2 := of_decide_eq_false h2) | skip
      have hin : inn = true := by simpa using h2
      rw [hin] at hwi
      have e9 := hwi.end1
      refine J_skip ?_
      change J _ _ _ _
      refine J_seq ?_
      refine J_region ?_
      refine L_v rfl rfl rfl (V_move rfl rfl) ?_
      refine L_v rfl rfl rfl (V_assign rfl rfl) ?_
      refine L_nil ?_
      change J _ _ _ _
      refine J_ret ?_
      change Kret _ _ _ Exit.ret _
      refine ret1 rfl rfl (RV_t rfl) ?_
      unfold wiN
      rw [← e9]
      exact fun w' h => ⟨q, rfl, hq, Upd.of h rfl (Pk.of_sub (List.Sublist.cons _ (List.sublist_append_right _ _))) (fun f hf => by cases hf) (fun f hf => by cases hf)⟩

end Go.Proofs.YtcbpgnjlbbjieaaDoor
