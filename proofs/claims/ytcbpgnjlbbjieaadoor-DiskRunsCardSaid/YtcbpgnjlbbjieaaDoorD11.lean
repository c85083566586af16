/- The document's disk: a body put in; a new disk; what is read. -/
import Derived.Test.YtcbpgnjlbbjieaaDoorD10
set_option linter.unusedVariables false
set_option linter.unusedSimpArgs false
set_option maxRecDepth 100000
namespace Go.Proofs.YtcbpgnjlbbjieaaDoor
open Go.Sx
theorem elRB : ElemOf Tryd.prog 91 2 32 (.agg [.slice none 0 0, .int .i64 0].toArray) := elem_of (by kernel_rfl) rfl
abbrev rb0 : Bo × (Option Addr × Nat) := (bo0, (none, 0))
theorem bsRB (w : World) : (Instr.buildSlice 78 1 [(0, .agg (rboV rb0).toArray)].toArray).run Tryd.prog w = .ok (.slice (some ⟨w.heap.size, 0, none⟩) 1 1) (w.alloc (row 91 (rboV rb0))) := by kernel_rfl
theorem rboR_app (l m : List (Bo × (Option Addr × Nat))) : rboR (l ++ m) = rboR l ++ rboR m := by
  show ((l ++ m).map rboV).flatten = _
  rw [List.map_append, List.flatten_append]
theorem radd_good {D : Dk} {H : RkH} {q' : OwnP} (hG : GoodR D H) (hq : PC 2 q' (H.bs.length + 1) (rboR H.bs ++ rboV rb0)) : GoodR { D with bo := D.bo ++ [bo0] } { H with qb := q', bs := H.bs ++ [rb0] } :=
  ⟨hG.c, by show PC 2 q' (H.bs ++ [rb0]).length (rboR (H.bs ++ [rb0])); rw [List.length_append, rboR_app]; exact hq, by show (H.bs ++ [rb0]).map Prod.fst = D.bo ++ [bo0]; rw [List.map_append, hG.l]; rfl, fun x hx => (List.mem_append.1 hx).elim (hG.k x) (fun h => by obtain rfl := List.mem_singleton.1 h; exact Nat.le_refl _)⟩
theorem radd_M (b : Nat) (D : Dk) (H : RkH) (q' : OwnP) : rkM b { D with bo := D.bo ++ [bo0] } { H with qb := q', bs := H.bs ++ [rb0] } = (b, row 82 (rkT D.room (pV q' (H.bs.length + 1)) (.slice H.sa D.sf.length H.sc) (pV H.qc D.ch.length) D.down D.stops D.left)) :: (pM 94 H.qc (chR D.ch) ++ pM 91 q' (rboR H.bs ++ rboV rb0)) := by
  show (b, row _ (rkT _ (pV q' (H.bs ++ [rb0]).length) _ _ _ _ _)) :: (_ ++ pM _ q' (rboR (H.bs ++ [rb0]))) = _
  rw [List.length_append, rboR_app]
  rfl
theorem radd_p {D : Dk} {H : RkH} {q' : OwnP} {w : World} (h : (rkF D H).p w) : (rkF { D with bo := D.bo ++ [bo0] } { H with qb := q', bs := H.bs ++ [rb0] }).p w := by
  refine ⟨h.1, fun f hf => ?_⟩
  have hf : f ∈ (H.bs ++ [rb0]).map rbF := hf
  rw [List.map_append] at hf
  rcases List.mem_append.1 hf with h1 | h1
  · exact h.2 f h1
  · obtain rfl := List.mem_singleton.1 h1
    exact .inl ⟨rfl, none, 0, rfl⟩
theorem radd_fp {D : Dk} {H : RkH} {q' : OwnP} {k : Nat} (h : (rkF { D with bo := D.bo ++ [bo0] } { H with qb := q', bs := H.bs ++ [rb0] }).fp k) : (rkF D H).fp k := by
  rcases h with h | ⟨f, hf, hk⟩
  · exact .inl h
  · have hf : f ∈ (H.bs ++ [rb0]).map rbF := hf
    rw [List.map_append] at hf
    rcases List.mem_append.1 hf with h1 | h1
    · exact .inr ⟨f, h1, hk⟩
    · obtain rfl := List.mem_singleton.1 h1
      obtain ⟨hne, _⟩ := hk
      exact absurd rfl hne
theorem rbs_len {D : Dk} {H : RkH} (h : GoodR D H) : H.bs.length = D.bo.length := by
  have := congrArg List.length h.l
  simpa using this
theorem rbs_get {D : Dk} {H : RkH} (h : GoodR D H) {i : Nat} (hi : i < D.bo.length) : ∃ q, H.bs[i]? = some (D.bo.getD i bo0, q) := by
  have hi2 : i < H.bs.length := by rw [rbs_len h]; exact hi
  refine ⟨(H.bs[i]).2, ?_⟩
  rw [List.getElem?_eq_getElem hi2]
  have : (H.bs.map Prod.fst)[i]? = D.bo[i]? := by rw [h.l]
  rw [List.getElem?_map, List.getElem?_eq_getElem hi2, List.getElem?_eq_getElem hi, Option.map_some, Option.some.injEq] at this
  rw [List.getD_eq_getElem?_getD, List.getElem?_eq_getElem hi, Option.getD_some, ← this]
theorem rboR_at {l : List (Bo × (Option Addr × Nat))} {i : Nat} {x : Bo × (Option Addr × Nat)} (h : l[i]? = some x) (k : Nat) (u : Value) (hu : (rboV x)[k]? = some u) : (rboR l)[((i : Nat) : Int).toNat * (1 + 1) + k]? = some u := by
  have hk : k < 2 := (List.getElem?_eq_some_iff.1 hu).1
  have hi := (List.getElem?_eq_some_iff.1 h).1
  have e : x = l.getD i rb0 := by rw [List.getD_eq_getElem?_getD, h]; rfl
  rw [← hu, e]
  exact flat_get' (f := rboV) (fun _ => rfl) rb0 k hi hk
/-- What the document's Read answers. -/
def RReadP (D : Dk) (H : RkH) (f : ByteArray) (w : World) : Ending → World → Prop := fun e w' => ∃ a c, e = .returned (.tuple #[.slice a (readB D f).length c, .int .i64 (readE D f)]) ∧ Fr [] w w' ∧ FG [rkF D H] w w' (factB (.slice a (readB D f).length c) (readB D f))
theorem ON.none {fs : List Fact} {n c : Nat} : ON fs n (factB (.slice none 0 c) []) := fun k hk => absurd rfl hk.1
def RNewP (room : Int) (w : World) : Ending → World → Prop := fun e w' => (¬ (1 ≤ room ∧ room ≤ 4194304) ∧ e = .returned (.tuple #[.pointer none, .int .i64 1]) ∧ Fr [] w w') ∨ ((1 ≤ room ∧ room ≤ 4194304) ∧ ∃ b H, e = .returned (.tuple #[.pointer (some ⟨b, 0, none⟩), .int .i64 0]) ∧ GoodR (newD room) H ∧ Upd [] w w' (rkM b (newD room) H) [] ∧ (rkF (newD room) H).p w' ∧ ∀ k, ¬ (rkF (newD room) H).fp k)
theorem RNO_fp {k c : Nat} : ¬ (nmF none c []).fp k := fun h => by obtain ⟨h, _⟩ := h; exact absurd rfl h
theorem elS1 : ElemOf Tryd.prog 9 1 16 (.string ByteArray.empty) := elem_of (by kernel_rfl) rfl
theorem bsS1 (s : ByteArray) (w : World) : (Instr.buildSlice 36 1 [(0, .string s)].toArray).run Tryd.prog w = .ok (.slice (some ⟨w.heap.size, 0, none⟩) 1 1) (w.alloc (row 9 [.string s])) := by kernel_rfl
theorem nmV_s {l : List Nm} {i : Nat} (h : i < l.length) : nmV (l.take (i + 1)) = nmV (l.take i) ++ [.string (l.getD i (e0, 0)).1] := by
  rw [take_s (e0, 0) h]
  show List.map _ (_ ++ _) = _
  rw [List.map_append]
  rfl
theorem sz4dk : (Tryd.prog.info? 4).map (·.size) = some 1 := by kernel_rfl
theorem sz9dk : (Tryd.prog.info? 9).map (·.size) = some 1 := by kernel_rfl
theorem sz22dk : (Tryd.prog.info? 22).map (·.size) = some 1 := by kernel_rfl
theorem sz78dk : (Tryd.prog.info? 78).map (·.size) = some 1 := by kernel_rfl
theorem sz91dk : (Tryd.prog.info? 91).map (·.size) = some 2 := by kernel_rfl
theorem sz96dk : (Tryd.prog.info? 96).map (·.size) = some 2 := by kernel_rfl
theorem tx56dk : Txt Tryd.prog 56 := txt_of Tryd.func56 rfl (by kernel_rfl)
theorem tx57dk : Txt Tryd.prog 57 := txt_of Tryd.func57 rfl (by kernel_rfl)
theorem tx58dk : Txt Tryd.prog 58 := txt_of Tryd.func58 rfl (by kernel_rfl)
theorem tx59dk : Txt Tryd.prog 59 := txt_of Tryd.func59 rfl (by kernel_rfl)

set_option maxHeartbeats 1000000 in
theorem rcreate_w (b0 : Nat) (D : Dk) (H : RkH) (f : ByteArray) (hf : f.size ≤ 9223372036854775807) (w : World) {k : Nat} (hM : MemAt w (rkM b0 D H)) (hG : GoodR D H) (hW : WfD D k) (hF : ∀ f ∈ [rkF D H], f.p w ∧ ∀ k, f.fp k → k < w.heap.size ∧ k ∉ (rkM b0 D H).map (·.1)) (hk : k ≤ 549755813888) :
    Calls Tryd.prog 41 #[.pointer (some ⟨b0, 0, none⟩), .string f] w fun e w' => RkP b0 D H w (createD D f) (.int .i64 (createE D f)) e w' := by
  have hbl := rbs_len hG
  have hn1 := hW.n1
  have hn2 := hW.n2
  refine calls_of (args := [.pointer (some ⟨b0, 0, none⟩), .string f]) ((rkM b0 D H).map (·.1)) (rkM b0 D H) ([rkF D H]) Tryd.func41 rfl rfl (okMem hM hF) ?_
  refine J_seq ?_
  refine J_region ?_
  refine L_v rfl rfl rfl (V_assign rfl rfl) ?_
  refine L_nil ?_
  change J _ _ _ _
  refine J_seq ?_
  refine J_block ?_
  refine J_seq ?_
  refine J_region ?_
  refine L_v rfl rfl rfl (V_move rfl rfl) ?_
  refine L_v rfl rfl rfl (V_nilCheck rfl rfl) ?_
  refine L_v rfl rfl rfl (V_fieldAddr rfl rfl Tryd.underlying82 rfl sz4dk rfl) ?_
  refine L_v rfl rfl rfl (V_load1 0 rfl rfl rfl Tryd.underlying4 rfl (by rfl)) ?_
  refine L_v rfl rfl rfl (V_assign rfl rfl) ?_
  refine L_nil ?_
  change J _ _ _ _
  refine J_cond rfl (fun h1 => ?_) (fun h1 => ?_)
  ·
    first | (have h1 := of_decide_eq_true h1) | (have h1 := of_decide_eq_false h1) | skip
    have hd : D.down = true := h1
    refine J_seq ?_
    refine J_region ?_
    refine L_v rfl rfl rfl (V_assign rfl rfl) ?_
    refine L_nil ?_
    change J _ _ _ _
    refine J_ret ?_
    change Kret _ _ _ Exit.ret _
    refine ret1 rfl rfl (RV_t rfl) ?_
    exact fun w' h => RkP.no hG (createE_1 hd) (createD_no (createE_1 hd) (by decide)) (UpdG.of h rfl (Pk.of_sub (List.Sublist.refl _)) (List.mem_singleton.2 rfl) (.self (List.mem_singleton.2 rfl)))
  ·
    first | (have h1 := of_decide_eq_true h1) | (have h1 := of_decide_eq_false h1) | skip
    have hd : D.down = false := h1
    refine J_seq ?_
    refine J_region ?_
    refine L_v rfl rfl rfl (V_move rfl rfl) ?_
    refine L_callV rfl rfl rfl rfl rfl rfl tx56dk (fun w1 hw => is_w f w1 hf) ?_
    refine L_v rfl rfl rfl (V_not rfl rfl rfl) ?_
    refine L_v rfl rfl rfl (V_assign rfl rfl) ?_
    refine L_nil ?_
    change J _ _ _ _
    refine J_cond rfl (fun h2 => ?_) (fun h2 => ?_)
    ·
      first | (have h2 := of_decide_eq_true h2) | (have h2 := of_decide_eq_false h2) | skip
      have h2 : nameOk f = false := by simpa using h2
      refine J_seq ?_
      refine J_region ?_
      refine L_v rfl rfl rfl (V_assign rfl rfl) ?_
      refine L_nil ?_
      change J _ _ _ _
      refine J_ret ?_
      change Kret _ _ _ Exit.ret _
      refine ret1 rfl rfl (RV_t rfl) ?_
      exact fun w' h => RkP.no hG (createE_2 hd h2) (createD_no (createE_2 hd h2) (by decide)) (UpdG.of h rfl (Pk.of_sub (List.Sublist.refl _)) (List.mem_singleton.2 rfl) (.self (List.mem_singleton.2 rfl)))
    ·
      first | (have h2 := of_decide_eq_true h2) | (have h2 := of_decide_eq_false h2) | skip
      have h2 : nameOk f = true := by simpa using h2
      refine J_seq ?_
      refine J_region ?_
      refine L_v rfl rfl rfl (V_move rfl rfl) ?_
      refine L_v rfl rfl rfl (V_move rfl rfl) ?_
      refine L_callV rfl rfl rfl rfl rfl rfl tx57dk (fun w1 hw => body_w b0 D H f w1 (hw.memAt (List.Sublist.refl _)) hG (hw.fa 0 rfl) hW (by have := hW.n2; omega)) ?_
      refine L_v rfl rfl rfl (V_lss rfl rfl rfl rfl) ?_
      refine L_v rfl rfl rfl (V_move rfl rfl) ?_
      refine L_split 19 rfl (fun h3 => ?_) (fun h3 => ?_)
      ·
        first | (have h3 := of_decide_eq_true h3) | (have h3 := of_decide_eq_false h3) | skip
        have h3 := bodyV_T.1 h3
        refine L_wv rfl rfl rfl rfl rfl rfl (V_move rfl rfl) ?_
        refine L_want rfl rfl rfl rfl (S_call rfl rfl rfl tx58dk (fun w1 hw => (all_w b0 D H w1 (hw.memAt (List.Sublist.refl _)) hG (hw.fa 0 rfl) (by have := hW.n2; omega)).mono ?_))
        rintro e w' ⟨a, c, rfl, hfr, hg⟩
        have hn1 := hg.2.trans (fs := [rkF D H]) (n := w.heap.size) (fun g hg => .self hg) hw.fr.size
        refine ⟨_, _, _, rfl, hw.addG (fun g hg => hg) hfr hg, rfl, ?_⟩
        refine L_wv rfl rfl rfl rfl rfl rfl (V_len rfl rfl Tryd.underlying79 rfl) ?_
        refine L_wv rfl rfl rfl rfl rfl rfl (V_geq rfl rfl rfl rfl) ?_
        first | refine L_v rfl rfl rfl (V_pickT rfl rfl rfl) ?_ | refine L_v rfl rfl rfl (V_pickF rfl rfl rfl) ?_
        refine L_v rfl rfl rfl (V_assign rfl rfl) ?_
        refine L_nil ?_
        change J _ _ _ _
        refine J_cond rfl (fun h4 => ?_) (fun h4 => ?_)
        ·
          first | (have h4 := of_decide_eq_true h4) | (have h4 := of_decide_eq_false h4) | skip
          have h4 : D.find f = none ∧ 16 ≤ D.all.length := ⟨h3, by omega⟩
          refine J_seq ?_
          refine J_region ?_
          refine L_v rfl rfl rfl (V_assign rfl rfl) ?_
          refine L_nil ?_
          change J _ _ _ _
          refine J_ret ?_
          change Kret _ _ _ Exit.ret _
          refine ret1 rfl rfl (RV_t rfl) ?_
          exact fun w' h => RkP.no hG (createE_3 hd h2 h4) (createD_no (createE_3 hd h2 h4) (by decide)) (UpdG.of h rfl (Pk.of_sub (List.Sublist.refl _)) (List.mem_cons_self ..) (.self (List.mem_singleton.2 rfl)))
        ·
          first | (have h4 := of_decide_eq_true h4) | (have h4 := of_decide_eq_false h4) | skip
          have hx := createE_4 hd h2 (fun h => by have := h.2; omega)
          refine J_skip ?_
          change J _ _ _ _
          refine J_seq ?_
          refine J_region ?_
          refine L_v rfl rfl rfl (V_move rfl rfl) ?_
          refine L_v rfl rfl rfl (V_move rfl rfl) ?_
          refine L_v rfl rfl rfl (V_nilCheck rfl rfl) ?_
          refine L_v rfl rfl rfl (V_fieldAddr rfl rfl Tryd.underlying82 rfl sz78dk rfl) ?_
          refine L_v rfl rfl rfl (V_load1 0 rfl rfl rfl Tryd.underlying78 rfl (by rfl)) ?_
          refine L_v rfl rfl rfl (V_buildE (v := .agg (rboV rb0).toArray) rfl rfl (fun w => by kernel_rfl)) ?_
          refine L_buildSlice (vs := [(0, .agg (rboV rb0).toArray)]) (l := rboV rb0) rfl rfl rfl rfl rfl bsRB (fun b1 => ?_)
          refine L_cons rfl (S_appendP ((b0, row 82 (rkC D H)) :: pM 94 H.qc (chR D.ch)) [(b1, row 91 (rboV rb0))] H.qb (rboR H.bs) (n := H.bs.length) (m := 1) (news := rboV rb0) rfl rfl rfl rfl Tryd.underlying78 elRB (by show (_ :: (_ ++ _)) ++ [_] = _; simp only [List.cons_append, List.append_assoc, List.nil_append]) hG.b (fun w1 hw => src_C Tryd.underlying78 (SlC.in (r := []) (fz := (0, 0)) hw (List.mem_append_right _ (List.mem_singleton.2 rfl)) rfl 1) (all_one (by kernel_rfl))) (by omega) (by omega) (fun q' hq' => ?_))
          refine L_v rfl rfl rfl (V_nilCheck rfl rfl) ?_
          refine L_v rfl rfl rfl (V_fieldAddr rfl rfl Tryd.underlying82 rfl sz78dk rfl) ?_
          refine L_store1 0 (l' := rkT D.room (pV q' (H.bs.length + 1)) (.slice H.sa D.sf.length H.sc) (pV H.qc D.ch.length) D.down D.stops D.left) rfl rfl rfl rfl rfl rfl rfl sz78dk (Nat.le_of_ble_eq_true (by kernel_rfl)) (by kernel_rfl) ?_
          refine L_nil ?_
          change J _ _ _ _
          refine J_seq ?_
          refine J_pk (rkM b0 { D with bo := D.bo ++ [bo0] } { H with qb := q', bs := H.bs ++ [rb0] }) (Pk.of_sub (by rw [radd_M]; exact List.Sublist.cons_cons _ (show List.Sublist (pM 94 _ _ ++ pM 91 q' _) (pM 94 _ _ ++ (pM 91 q' _ ++ [_])) from List.Sublist.append (List.Sublist.refl _) (List.sublist_append_left _ _)))) ?_
          refine J_deriv (rkF { D with bo := D.bo ++ [bo0] } { H with qb := q', bs := H.bs ++ [rb0] }) (fun w hw => radd_p (hw.fa 0 rfl).1) (fun k hk => ⟨rkF D H, List.mem_cons_self .., radd_fp hk⟩) ?_
          refine J_region ?_
          refine L_v rfl rfl rfl (V_move rfl rfl) ?_
          refine L_v rfl rfl rfl (V_move rfl rfl) ?_
          refine L_v rfl rfl rfl (V_move rfl rfl) ?_
          refine L_v rfl rfl rfl (V_nilCheck rfl rfl) ?_
          refine L_v rfl rfl rfl (V_fieldAddr rfl rfl Tryd.underlying82 rfl sz78dk rfl) ?_
          refine L_v rfl rfl rfl (V_load1 0 rfl rfl rfl Tryd.underlying78 rfl (by rfl)) ?_
          refine L_v rfl rfl rfl (V_len rfl rfl Tryd.underlying78 rfl) ?_
          refine L_v rfl rfl rfl (V_sub (r := ((D.bo.length : Nat) : Int)) rfl rfl rfl (by have e9 : (H.bs ++ [rb0]).length = D.bo.length + 1 := (by rw [List.length_append, hbl]; rfl); rw [IntKind.wrap_i64]; simp only [e9]; omega)) ?_
          refine L_v rfl rfl rfl (V_buildE (v := .agg (chV (e0, f, D.bo.length)).toArray) rfl rfl (fun w => by kernel_rfl)) ?_
          refine L_call rfl rfl rfl rfl tx59dk (fun w1 hw => (rchange_w b0 { D with bo := D.bo ++ [bo0] } { H with qb := q', bs := H.bs ++ [rb0] } (e0, f, D.bo.length) w1 (hw.memAt (List.Sublist.refl _)) (radd_good hG hq') (hW.addB) (fun g hg => hw.facts g ((fun g hg => List.mem_append_right _ hg) g hg)) hd (by omega)).mono ?_)
          rintro e w' ⟨H', rfl, hG', hU⟩
          have hn9 := hU.g.2.trans (fs := [rkF D H]) (n := w.heap.size) (fun g hg k hk => by obtain rfl := List.mem_singleton.1 hg; exact .inl ⟨_, List.mem_singleton.2 rfl, radd_fp hk⟩) hw.fr.size
          refine ⟨_, _, _, rfl, OkW.updG (m1 := []) hw (fun g hg => List.mem_append_right _ hg) hU, rfl, ?_⟩
          refine L_v rfl rfl rfl (V_assign rfl rfl) ?_
          refine L_nil ?_
          change J _ _ _ _
          refine J_ret ?_
          change Kret _ _ _ Exit.ret _
          refine ret1 rfl rfl (RV_t rfl) ?_
          exact fun w' h => RkP.ok hx (createD_0 hx) hG' (UpdG.of h rfl (Pk.of_sub (List.Sublist.refl _)) (List.mem_append_right _ (List.mem_singleton.2 rfl)) hn9)
      ·
        first | (have h3 := of_decide_eq_true h3) | (have h3 := of_decide_eq_false h3) | skip
        obtain ⟨i0, hi0, _⟩ := bodyV_F h3
        have hx := createE_4 hd h2 (fun h => by rw [hi0] at h; cases h.1)
        refine L_skip rfl rfl rfl rfl rfl rfl rfl ?_
        refine L_skip rfl rfl rfl rfl rfl rfl rfl ?_
        refine L_skip rfl rfl rfl rfl rfl rfl rfl ?_
        refine L_skip rfl rfl rfl rfl rfl rfl rfl ?_
        first | refine L_v rfl rfl rfl (V_pickT rfl rfl rfl) ?_ | refine L_v rfl rfl rfl (V_pickF rfl rfl rfl) ?_
        refine L_v rfl rfl rfl (V_assign rfl rfl) ?_
        refine L_nil ?_
        change J _ _ _ _
        refine J_false rfl ?_
        refine J_skip ?_
        change J _ _ _ _
        refine J_seq ?_
        refine J_region ?_
        refine L_v rfl rfl rfl (V_move rfl rfl) ?_
        refine L_v rfl rfl rfl (V_move rfl rfl) ?_
        refine L_v rfl rfl rfl (V_nilCheck rfl rfl) ?_
        refine L_v rfl rfl rfl (V_fieldAddr rfl rfl Tryd.underlying82 rfl sz78dk rfl) ?_
        refine L_v rfl rfl rfl (V_load1 0 rfl rfl rfl Tryd.underlying78 rfl (by rfl)) ?_
        refine L_v rfl rfl rfl (V_buildE (v := .agg (rboV rb0).toArray) rfl rfl (fun w => by kernel_rfl)) ?_
        refine L_buildSlice (vs := [(0, .agg (rboV rb0).toArray)]) (l := rboV rb0) rfl rfl rfl rfl rfl bsRB (fun b1 => ?_)
        refine L_cons rfl (S_appendP ((b0, row 82 (rkC D H)) :: pM 94 H.qc (chR D.ch)) [(b1, row 91 (rboV rb0))] H.qb (rboR H.bs) (n := H.bs.length) (m := 1) (news := rboV rb0) rfl rfl rfl rfl Tryd.underlying78 elRB (by show (_ :: (_ ++ _)) ++ [_] = _; simp only [List.cons_append, List.append_assoc, List.nil_append]) hG.b (fun w1 hw => src_C Tryd.underlying78 (SlC.in (r := []) (fz := (0, 0)) hw (List.mem_append_right _ (List.mem_singleton.2 rfl)) rfl 1) (all_one (by kernel_rfl))) (by omega) (by omega) (fun q' hq' => ?_))
        refine L_v rfl rfl rfl (V_nilCheck rfl rfl) ?_
        refine L_v rfl rfl rfl (V_fieldAddr rfl rfl Tryd.underlying82 rfl sz78dk rfl) ?_
        refine L_store1 0 (l' := rkT D.room (pV q' (H.bs.length + 1)) (.slice H.sa D.sf.length H.sc) (pV H.qc D.ch.length) D.down D.stops D.left) rfl rfl rfl rfl rfl rfl rfl sz78dk (Nat.le_of_ble_eq_true (by kernel_rfl)) (by kernel_rfl) ?_
        refine L_nil ?_
        change J _ _ _ _
        refine J_seq ?_
        refine J_pk (rkM b0 { D with bo := D.bo ++ [bo0] } { H with qb := q', bs := H.bs ++ [rb0] }) (Pk.of_sub (by rw [radd_M]; exact List.Sublist.cons_cons _ (show List.Sublist (pM 94 _ _ ++ pM 91 q' _) (pM 94 _ _ ++ (pM 91 q' _ ++ [_])) from List.Sublist.append (List.Sublist.refl _) (List.sublist_append_left _ _)))) ?_
        refine J_deriv (rkF { D with bo := D.bo ++ [bo0] } { H with qb := q', bs := H.bs ++ [rb0] }) (fun w hw => radd_p (hw.fa 0 rfl).1) (fun k hk => ⟨rkF D H, List.mem_cons_self .., radd_fp hk⟩) ?_
        refine J_region ?_
        refine L_v rfl rfl rfl (V_move rfl rfl) ?_
        refine L_v rfl rfl rfl (V_move rfl rfl) ?_
        refine L_v rfl rfl rfl (V_move rfl rfl) ?_
        refine L_v rfl rfl rfl (V_nilCheck rfl rfl) ?_
        refine L_v rfl rfl rfl (V_fieldAddr rfl rfl Tryd.underlying82 rfl sz78dk rfl) ?_
        refine L_v rfl rfl rfl (V_load1 0 rfl rfl rfl Tryd.underlying78 rfl (by rfl)) ?_
        refine L_v rfl rfl rfl (V_len rfl rfl Tryd.underlying78 rfl) ?_
        refine L_v rfl rfl rfl (V_sub (r := ((D.bo.length : Nat) : Int)) rfl rfl rfl (by have e9 : (H.bs ++ [rb0]).length = D.bo.length + 1 := (by rw [List.length_append, hbl]; rfl); rw [IntKind.wrap_i64]; simp only [e9]; omega)) ?_
        refine L_v rfl rfl rfl (V_buildE (v := .agg (chV (e0, f, D.bo.length)).toArray) rfl rfl (fun w => by kernel_rfl)) ?_
        refine L_call rfl rfl rfl rfl tx59dk (fun w1 hw => (rchange_w b0 { D with bo := D.bo ++ [bo0] } { H with qb := q', bs := H.bs ++ [rb0] } (e0, f, D.bo.length) w1 (hw.memAt (List.Sublist.refl _)) (radd_good hG hq') (hW.addB) (fun g hg => hw.facts g ((fun g hg => List.mem_append_right _ hg) g hg)) hd (by omega)).mono ?_)
        rintro e w' ⟨H', rfl, hG', hU⟩
        have hn9 := hU.g.2.trans (fs := [rkF D H]) (n := w.heap.size) (fun g hg k hk => by obtain rfl := List.mem_singleton.1 hg; exact .inl ⟨_, List.mem_singleton.2 rfl, radd_fp hk⟩) hw.fr.size
        refine ⟨_, _, _, rfl, OkW.updG (m1 := []) hw (fun g hg => List.mem_append_right _ hg) hU, rfl, ?_⟩
        refine L_v rfl rfl rfl (V_assign rfl rfl) ?_
        refine L_nil ?_
        change J _ _ _ _
        refine J_ret ?_
        change Kret _ _ _ Exit.ret _
        refine ret1 rfl rfl (RV_t rfl) ?_
        exact fun w' h => RkP.ok hx (createD_0 hx) hG' (UpdG.of h rfl (Pk.of_sub (List.Sublist.refl _)) (List.mem_append_right _ (List.mem_singleton.2 rfl)) hn9)

theorem rnew_w (room : Int) (w : World) :
    Calls Tryd.prog 21 #[.int .i64 room] w fun e w' => RNewP room w e w' := by
  refine calls_of (args := [.int .i64 room]) ([]) ([]) ([]) Tryd.func21 rfl rfl (okW0 _ _ _ _) ?_
  refine J_seq ?_
  refine J_region ?_
  refine L_v rfl rfl rfl (V_assign rfl rfl) ?_
  refine L_v rfl rfl rfl (V_assign rfl rfl) ?_
  refine L_nil ?_
  change J _ _ _ _
  refine J_seq ?_
  refine J_seq ?_
  refine J_region ?_
  refine L_v rfl rfl rfl (V_move rfl rfl) ?_
  refine L_v rfl rfl rfl (V_lss rfl rfl rfl rfl) ?_
  refine L_v rfl rfl rfl (V_move rfl rfl) ?_
  apply L_or 2 6 9
  · rfl
  · rfl
  · rfl
  · rfl
  · rfl
  · rfl
  · rfl
  · kernel_rfl
  · intro hb1 _ _ hk1
    refine L_wv rfl rfl rfl rfl rfl rfl (V_move rfl rfl) ?_
    refine L_wv rfl rfl rfl rfl rfl rfl (V_gtr rfl rfl rfl rfl) ?_
    exact hk1 _ ⟨rfl, rfl, rfl, rfl, ext_cut 2 (by kernel_rfl) (by kernel_rfl)⟩
  refine L_nil ?_
  change J _ _ _ _
  refine J_cond rfl (fun h2 => ?_) (fun h2 => ?_)
  ·
    first | (have h2 := of_decide_eq_true h2) | (have h2 := of_decide_eq_false h2) | skip
    rw [Bool.or_eq_true, decide_eq_true_eq, decide_eq_true_eq] at h2
    refine J_seq ?_
    refine J_region ?_
    refine L_v rfl rfl rfl (V_assign rfl rfl) ?_
    refine L_v rfl rfl rfl (V_assign rfl rfl) ?_
    refine L_nil ?_
    change J _ _ _ _
    refine J_ret ?_
    change Kret _ _ _ Exit.ret _
    refine ret2 rfl rfl (RV_t rfl) (RV_t rfl) ?_
    exact fun w' h => .inl ⟨by omega, rfl, h.fr⟩
  ·
    first | (have h2 := of_decide_eq_true h2) | (have h2 := of_decide_eq_false h2) | skip
    rw [Bool.or_eq_false_iff, decide_eq_false_iff_not, decide_eq_false_iff_not] at h2
    refine J_skip ?_
    change J _ _ _ _
    refine J_seq ?_
    refine J_region ?_
    refine L_v rfl rfl rfl (V_move rfl rfl) ?_
    refine L_v rfl rfl rfl (V_buildE (v := .agg (rkT room (.slice none 0 0) (.slice none 0 0) (.slice none 0 0) false false 0).toArray) rfl rfl (fun w => by kernel_rfl)) ?_
    refine L_box rfl rfl rfl rfl rfl (fun b0 => ?_)
    refine L_v rfl rfl rfl (V_assign rfl rfl) ?_
    refine L_v rfl rfl rfl (V_assign rfl rfl) ?_
    refine L_nil ?_
    change J _ _ _ _
    refine J_ret ?_
    change Kret _ _ _ Exit.ret _
    refine ret2 rfl rfl (RV_t rfl) (RV_t rfl) ?_
    exact fun w' h => .inr ⟨by omega, b0, ⟨none, none, none, 0, []⟩, rfl, ⟨⟨rfl, rfl⟩, ⟨rfl, rfl⟩, rfl, fun x hx => by cases hx⟩, Upd.of h rfl (Pk.of_sub (List.Sublist.refl _)) (fun f hf => by cases hf) (fun f hf => by cases hf), ⟨.inl ⟨rfl, rfl, none, 0, rfl⟩, fun f hf => by cases hf⟩, fun k hk => by rcases hk with hk | ⟨f, hf, _⟩; exact RNO_fp hk; cases hf⟩

theorem rread_w {k : Nat} (b0 : Nat) (D : Dk) (H : RkH) (f : ByteArray) (w : World) (hM : MemAt w (rkM b0 D H)) (hG : GoodR D H) (hF : FA w (rkF D H)) (hW : WfD D k) (hl : D.sf.length + D.ch.length ≤ 549755813888) :
    Calls Tryd.prog 50 #[.pointer (some ⟨b0, 0, none⟩), .string f] w fun e w' => RReadP D H f w e w' := by
  refine calls_of (args := [.pointer (some ⟨b0, 0, none⟩), .string f]) ([]) ([]) ([rkF D H]) Tryd.func50 rfl rfl (okFW (.cons hF .nil)) ?_
  refine J_seq ?_
  refine J_region ?_
  refine L_v rfl rfl rfl (V_assign rfl rfl) ?_
  refine L_v rfl rfl rfl (V_assign rfl rfl) ?_
  refine L_nil ?_
  change J _ _ _ _
  refine J_seq ?_
  refine J_region ?_
  refine L_v rfl rfl rfl (V_move rfl rfl) ?_
  refine L_v rfl rfl rfl (V_move rfl rfl) ?_
  refine L_callV rfl rfl rfl rfl rfl rfl tx57dk (fun w1 hw => body_w b0 D H f w1 ⟨fun b o hb => OkW.later hw rfl (hM.1 b o hb), hM.2⟩ hG (hw.fa 0 rfl) hW hl) ?_
  refine L_v rfl rfl rfl (V_assign rfl rfl) ?_
  refine L_nil ?_
  change J _ _ _ _
  refine J_seq ?_
  refine J_seq ?_
  refine J_region ?_
  refine L_v rfl rfl rfl (V_move rfl rfl) ?_
  refine L_v rfl rfl rfl (V_lss rfl rfl rfl rfl) ?_
  refine L_nil ?_
  change J _ _ _ _
  refine J_cond rfl (fun h1 => ?_) (fun h1 => ?_)
  ·
    first | (have h1 := of_decide_eq_true h1) | (have h1 := of_decide_eq_false h1) | skip
    have h1 := bodyV_T.1 h1
    refine J_seq ?_
    refine J_region ?_
    refine L_v rfl rfl rfl (V_assign rfl rfl) ?_
    refine L_v rfl rfl rfl (V_assign rfl rfl) ?_
    refine L_nil ?_
    change J _ _ _ _
    refine J_ret ?_
    change Kret _ _ _ Exit.ret _
    refine ret2 rfl rfl (RV_t rfl) (RV_t rfl) ?_
    exact fun w' h => ⟨none, 0, by rw [readB_1 h1, readE_1 h1]; rfl, h.fr, by rw [readB_1 h1]; exact ⟨⟨.inl ⟨rfl, none, 0, rfl⟩, fun k hk => absurd rfl hk.1⟩, ON.none⟩⟩
  ·
    first | (have h1 := of_decide_eq_true h1) | (have h1 := of_decide_eq_false h1) | skip
    obtain ⟨i, hi, hbv⟩ := bodyV_F h1
    have hil := hW.find_lt hi
    obtain ⟨q, hq⟩ := rbs_get hG hil
    have hbl := rbs_len hG
    have hAt : ∃ b off, pA H.qb = some ⟨b, off, none⟩ := hG.b.at (by omega)
    refine J_skip ?_
    change J _ _ _ _
    refine J_seq ?_
    refine J_region ?_
    refine L_v rfl rfl rfl (V_move rfl rfl) ?_
    refine L_v rfl rfl rfl (V_nilCheck rfl rfl) ?_
    refine L_v rfl rfl rfl (V_fieldAddr rfl rfl Tryd.underlying82 rfl sz78dk rfl) ?_
    refine L_v rfl rfl rfl (V_loadF rfl rfl Tryd.underlying78 rfl (fun w hw => OkW.later hw rfl (hM.1 b0 _ (List.mem_cons_self ..))) rfl) ?_
    refine L_v rfl rfl rfl (V_move rfl rfl) ?_
    refine L_same 16 rfl ((congrArg (Value.int .i64) hbv)) ?_
    refine L_v rfl rfl rfl (V_indexN rfl rfl rfl Tryd.underlying78 sz91dk hAt (by omega) (by omega)) ?_
    refine L_v rfl rfl rfl (V_fieldC rfl rfl (fun _ _ => hAt) Tryd.underlying91 rfl sz22dk rfl) ?_
    refine L_v rfl rfl rfl (V_loadC rfl rfl Tryd.underlying22 rfl (fun w hw => SlC.later hw rfl (hG.b.slC (e := 91) (okA (P := Tryd.prog) hM) (fun p hp => List.mem_cons_of_mem _ (List.mem_append_right _ hp)))) (rboR_at hq 0 _ rfl)) ?_
    refine L_v rfl rfl rfl (V_assign rfl rfl) ?_
    refine L_v rfl rfl rfl (V_assign rfl rfl) ?_
    refine L_nil ?_
    change J _ _ _ _
    refine J_ret ?_
    change Kret _ _ _ Exit.ret _
    refine ret2 rfl rfl (RV_t rfl) (RV_t rfl) ?_
    exact fun w' h => ⟨q.1, q.2, by rw [readB_0 hi, readE_0 hi], h.fr, by rw [readB_0 hi]; have hin : rbF (D.bo.getD i bo0, q) ∈ H.bs.map rbF := List.mem_map.2 ⟨_, List.mem_of_getElem? hq, rfl⟩; exact ⟨FA.of (FA.r (f := nmF H.sa H.sc D.sf) (h.fa 0 rfl)) hin, fun k hk => .inl ⟨_, List.mem_singleton.2 rfl, .inr ⟨_, hin, hk⟩⟩⟩⟩

theorem rnames_w {k : Nat} (b0 : Nat) (D : Dk) (H : RkH) (w : World) (hM : MemAt w (rkM b0 D H)) (hG : GoodR D H) (hF : FA w (rkF D H)) (hW : WfD D k) (hl : D.sf.length + D.ch.length ≤ 549755813888) :
    Calls Tryd.prog 49 #[.pointer (some ⟨b0, 0, none⟩)] w fun e w' => NmP D.all w e w' := by
  have hal : D.all.length ≤ D.sf.length + D.ch.length := dos_len D.ch D.sf
  refine calls_of (args := [.pointer (some ⟨b0, 0, none⟩)]) ([]) ([]) ([rkF D H]) Tryd.func49 rfl rfl (okFW (.cons hF .nil)) ?_
  refine J_seq ?_
  refine J_region ?_
  refine L_v rfl rfl rfl (V_assign rfl rfl) ?_
  refine L_nil ?_
  change J _ _ _ _
  refine J_seq ?_
  refine J_region ?_
  refine L_v rfl rfl rfl (V_assign rfl rfl) ?_
  refine L_nil ?_
  change J _ _ _ _
  refine J_seq ?_
  refine J_region ?_
  refine L_v rfl rfl rfl (V_move rfl rfl) ?_
  refine L_call rfl rfl rfl rfl tx58dk (fun w1 hw => (all_w b0 D H w1 ⟨fun b o hb => OkW.later hw rfl (hM.1 b o hb), hM.2⟩ hG (hw.fa 0 rfl) hl).mono ?_)
  rintro e w' ⟨a, c, rfl, hfr, hg⟩
  refine ⟨_, _, _, rfl, hw.addG (fun g hg => hg) hfr hg, rfl, ?_⟩
  have hs := hg.1.1
  refine L_v rfl rfl rfl (V_assign rfl rfl) ?_
  refine L_nil ?_
  change J _ _ _ _
  refine J_seq ?_
  refine J_seq ?_
  refine J_region ?_
  refine L_v rfl rfl rfl (V_assign rfl rfl) ?_
  refine L_nil ?_
  change J _ _ _ _
  refine J_block ?_
  refine J_loop (X := Nat × OwnP) (fun x => { env := [(3, pV x.2 x.1), (4, .slice a D.all.length c), (5, .int .i64 (x.1 : Int))], mem := pM 9 x.2 (nmV (D.all.take x.1)), facts := [nmF a c D.all] }) (fun x => x.1 ≤ D.all.length ∧ PC 1 x.2 x.1 (nmV (D.all.take x.1))) (fun x => D.all.length - x.1) (0, none) ⟨Nat.zero_le _, ⟨rfl, rfl⟩⟩ ⟨⟨rfl, rfl, rfl, trivial⟩, List.Sublist.refl _, fun f hf => List.mem_append_right _ hf, rfl⟩ ?_
  rintro ⟨i, q⟩ ⟨hil, hq⟩
  try simp only at hil hq ⊢
  refine J_seq ?_
  refine J_seq ?_
  refine J_region ?_
  refine L_v rfl rfl rfl (V_move rfl rfl) ?_
  refine L_v rfl rfl rfl (V_move rfl rfl) ?_
  refine L_v rfl rfl rfl (V_len rfl rfl Tryd.underlying79 rfl) ?_
  refine L_v rfl rfl rfl (V_lss rfl rfl rfl rfl) ?_
  refine L_nil ?_
  change J _ _ _ _
  refine J_cond rfl (fun h1 => ?_) (fun h1 => ?_)
  ·
    first | (have h1 := of_decide_eq_true h1) | (have h1 := of_decide_eq_false h1) | skip
    have hi : i < D.all.length := by omega
    refine J_skip ?_
    change J _ _ _ _
    refine J_seq ?_
    refine J_block ?_
    refine J_region ?_
    refine L_v rfl rfl rfl (V_move rfl rfl) ?_
    refine L_v rfl rfl rfl (V_move rfl rfl) ?_
    refine L_v rfl rfl rfl (V_move rfl rfl) ?_
    refine L_v rfl rfl rfl (V_indexN rfl rfl rfl Tryd.underlying79 sz96dk (nm_pos hs hi) (by omega) (by omega)) ?_
    refine L_v rfl rfl rfl (V_fieldC rfl rfl (fun _ _ => nm_pos hs hi) Tryd.underlying96 rfl sz9dk rfl) ?_
    refine L_v rfl rfl rfl (V_loadC rfl rfl Tryd.underlying9 rfl (fun w hw => (hw.fa 0 rfl).1) (nmR_at hi 0 _ rfl)) ?_
    refine L_buildSlice (e := 9) (vs := [(0, .string (D.all.getD i (e0, 0)).1)]) (l := [.string (D.all.getD i (e0, 0)).1]) rfl rfl rfl rfl rfl (bsS1 _) (fun b9 => ?_)
    refine L_cons rfl (S_appendP (e := 9) [] [(b9, row 9 [.string (D.all.getD i (e0, 0)).1])] q (nmV (D.all.take i)) (n := i) (m := 1) (news := [.string (D.all.getD i (e0, 0)).1]) rfl rfl rfl rfl Tryd.underlying36 elS1 rfl hq (fun w1 hw => src_C Tryd.underlying36 (SlC.in (r := []) (fz := (0, 0)) hw (List.mem_append_right _ (List.mem_singleton.2 rfl)) rfl 1) (all_one (by kernel_rfl))) (by omega) (by omega) (fun q' hq' => ?_))
    refine L_v rfl rfl rfl (V_assign rfl rfl) ?_
    refine L_nil ?_
    change J _ _ _ _
    refine J_region ?_
    refine L_v rfl rfl rfl (V_move rfl rfl) ?_
    refine L_v rfl rfl rfl (V_add (r := ((i + 1 : Nat) : Int)) rfl rfl rfl (by rw [IntKind.wrap_i64]; omega)) ?_
    refine L_v rfl rfl rfl (V_assign rfl rfl) ?_
    refine L_nil ?_
    exact ⟨(i + 1, q'), ⟨by show i + 1 ≤ _; omega, by show PC 1 q' (i + 1) (nmV (D.all.take (i + 1))); rw [nmV_s hi]; exact hq'⟩, by show D.all.length - (i + 1) < D.all.length - i; omega, ⟨rfl, rfl, rfl, trivial⟩, (by show List.Sublist (pM 9 q' (nmV (D.all.take (i + 1)))) ([] ++ (pM 9 q' _ ++ _)); rw [nmV_s hi]; exact List.sublist_append_left _ _), fun f hf => hf, rfl⟩
  ·
    first | (have h1 := of_decide_eq_true h1) | (have h1 := of_decide_eq_false h1) | skip
    obtain rfl : i = D.all.length := by omega
    rw [List.take_length] at hq
    refine J_exit ?_
    change J _ _ _ _
    refine J_seq ?_
    refine J_region ?_
    refine L_v rfl rfl rfl (V_move rfl rfl) ?_
    refine L_v rfl rfl rfl (V_assign rfl rfl) ?_
    refine L_nil ?_
    change J _ _ _ _
    refine J_ret ?_
    change Kret _ _ _ Exit.ret _
    refine ret1 rfl rfl (RV_t rfl) ?_
    rw [List.take_length] at *
    exact fun w' h => ⟨q, rfl, hq, Upd.of h rfl (Pk.of_sub (List.Sublist.refl _)) (fun f hf => by cases hf) (fun f hf => by cases hf)⟩

end Go.Proofs.YtcbpgnjlbbjieaaDoor
