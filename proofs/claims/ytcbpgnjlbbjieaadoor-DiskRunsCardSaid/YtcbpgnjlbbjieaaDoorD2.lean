/- The disk's calls. -/
import Derived.Test.YtcbpgnjlbbjieaaDoorD1
import Derived.Test.YtcbpgnjlbbjieaaDoorDiskSort
set_option linter.unusedVariables false
set_option linter.unusedSimpArgs false
set_option maxRecDepth 100000
namespace Go.Proofs.YtcbpgnjlbbjieaaDoor
open Go.Sx
theorem elB : ElemOf Tryd.prog 65 2 32 (.agg [.slice none 0 0, .int .i64 0].toArray) := elem_of (by kernel_rfl) rfl
theorem elU : ElemOf Tryd.prog 5 1 1 (.int .u8 0) := elem_of (by kernel_rfl) rfl
theorem bsB (w : World) : (Instr.buildSlice 58 1 [(0, .agg (boV (bo0, none)).toArray)].toArray).run Tryd.prog w = .ok (.slice (some ⟨w.heap.size, 0, none⟩) 1 1) (w.alloc (row 65 (boV (bo0, none)))) := by kernel_rfl
/-- What New answers. -/
def NewP (room : Int) (w : World) : Ending → World → Prop := fun e w' =>
  (¬ (1 ≤ room ∧ room ≤ 4194304) ∧ e = .returned (.tuple #[.pointer none, .int .i64 1]) ∧ Fr [] w w') ∨
  ((1 ≤ room ∧ room ≤ 4194304) ∧ ∃ b H, e = .returned (.tuple #[.pointer (some ⟨b, 0, none⟩), .int .i64 0]) ∧ Good (newD room) H ∧ Upd [] w w' (dkM b (newD room) H) [])
theorem new_good (a b : Nat) (room : Int) : Good (newD room) ⟨a, #[], 0, [], b, #[], 0, [], none, none, []⟩ := ⟨MapIs.made, .refl _, MapIs.made, .refl _, ⟨rfl, rfl⟩, ⟨rfl, rfl⟩, rfl, fun x hx => (by cases hx)⟩
theorem rowU {w : World} {v : Value} {l : List Int} (h : SlB w v l) : SlC 1 w v l.length (dg l) := h.toC
theorem byt_one (l : List Int) : ∀ u ∈ dg l, u.oneCell' = true := fun u hu => by
  obtain ⟨x, _, rfl⟩ := List.mem_map.1 hu
  rfl
theorem sz3db : (Tryd.prog.info? 3).map (·.size) = some 1 := by kernel_rfl
theorem sz4db : (Tryd.prog.info? 4).map (·.size) = some 1 := by kernel_rfl
theorem sz22db : (Tryd.prog.info? 22).map (·.size) = some 1 := by kernel_rfl
theorem sz57db : (Tryd.prog.info? 57).map (·.size) = some 1 := by kernel_rfl
theorem sz58db : (Tryd.prog.info? 58).map (·.size) = some 1 := by kernel_rfl
theorem sz65db : (Tryd.prog.info? 65).map (·.size) = some 2 := by kernel_rfl
theorem tx29db : Txt Tryd.prog 29 := txt_of Tryd.func29 rfl (by kernel_rfl)
theorem tx30db : Txt Tryd.prog 30 := txt_of Tryd.func30 rfl (by kernel_rfl)
theorem tx31db : Txt Tryd.prog 31 := txt_of Tryd.func31 rfl (by kernel_rfl)
theorem tx32db : Txt Tryd.prog 32 := txt_of Tryd.func32 rfl (by kernel_rfl)
theorem tx33db : Txt Tryd.prog 33 := txt_of Tryd.func33 rfl (by kernel_rfl)
theorem z3db : (Tryd.prog.info? 3).bind (·.zero) = some (.int .i64 0) := by kernel_rfl

theorem new_w (room : Int) (w : World) :
    Calls Tryd.prog 9 #[.int .i64 room] w fun e w' => NewP room w e w' := by
  refine calls_of (args := [.int .i64 room]) ([]) ([]) ([]) Tryd.func9 rfl rfl (okW0 _ _ _ _) ?_
  refine J_seq ?_
  refine J_region ?_
  refine L_v rfl rfl rfl (V_assign rfl rfl) ?_
  refine L_v rfl rfl rfl (V_assign rfl rfl) ?_
  refine L_nil ?_
  change J _ _ _ _
  refine J_seq ?_
  refine J_seq ?_
  refine J_region ?_
  refine L_v rfl rfl rfl (V_move rfl rfl) ?_
  refine L_v rfl rfl rfl (V_lss rfl rfl rfl rfl) ?_
  refine L_v rfl rfl rfl (V_move rfl rfl) ?_
  apply L_or 2 6 9
  · rfl
  · rfl
  · rfl
  · rfl
  · rfl
  · rfl
  · rfl
  · kernel_rfl
  · intro hb1 _ _ hk1
    refine L_wv rfl rfl rfl rfl rfl rfl (V_move rfl rfl) ?_
    refine L_wv rfl rfl rfl rfl rfl rfl (V_gtr rfl rfl rfl rfl) ?_
    exact hk1 _ ⟨rfl, rfl, rfl, rfl, ext_cut 2 (by kernel_rfl) (by kernel_rfl)⟩
  refine L_nil ?_
  change J _ _ _ _
  refine J_cond rfl (fun h2 => ?_) (fun h2 => ?_)
  ·
    first | (have h2 := of_decide_eq_true h2) | (have h2 := of_decide_eq_false h2) | skip
    rw [Bool.or_eq_true, decide_eq_true_eq, decide_eq_true_eq] at h2
    refine J_seq ?_
    refine J_region ?_
    refine L_v rfl rfl rfl (V_assign rfl rfl) ?_
    refine L_v rfl rfl rfl (V_assign rfl rfl) ?_
    refine L_nil ?_
    change J _ _ _ _
    refine J_ret ?_
    change Kret _ _ _ Exit.ret _
    refine ret2 rfl rfl (RV_t rfl) (RV_t rfl) ?_
    exact fun w' h => .inl ⟨by omega, rfl, h.fr⟩
  ·
    first | (have h2 := of_decide_eq_true h2) | (have h2 := of_decide_eq_false h2) | skip
    rw [Bool.or_eq_false_iff, decide_eq_false_iff_not, decide_eq_false_iff_not] at h2
    refine J_skip ?_
    change J _ _ _ _
    refine J_seq ?_
    refine J_region ?_
    refine L_v rfl rfl rfl (V_move rfl rfl) ?_
    refine L_makeMap rfl rfl rfl rfl (fun b0 => ?_)
    refine L_makeMap rfl rfl rfl rfl (fun b1 => ?_)
    refine L_v rfl rfl rfl (V_buildE (v := .agg (dkT room (.slice none 0 0) (.map (some b0)) (.map (some b1)) (.slice none 0 0) false false 0).toArray) rfl rfl (fun w => by kernel_rfl)) ?_
    refine L_box rfl rfl rfl rfl rfl (fun b2 => ?_)
    refine L_v rfl rfl rfl (V_assign rfl rfl) ?_
    refine L_v rfl rfl rfl (V_assign rfl rfl) ?_
    refine L_nil ?_
    change J _ _ _ _
    refine J_ret ?_
    change Kret _ _ _ Exit.ret _
    refine ret2 rfl rfl (RV_t rfl) (RV_t rfl) ?_
    exact fun w' h => .inr ⟨by omega, b2, ⟨b0, #[], 0, [], b1, #[], 0, [], none, none, []⟩, rfl, new_good _ _ _, Upd.of h rfl (Pk.of_perm (l := [(b0, .map #[] 0), (b1, .map #[] 0), (b2, row 61 (dkT room (.slice none 0 0) (.map (some b0)) (.map (some b1)) (.slice none 0 0) false false 0))]) (List.perm_append_comm (l₁ := [_, _]) (l₂ := [_])) (List.Sublist.refl _)) (fun f hf => by cases hf) (fun f hf => by cases hf)⟩

theorem down_w (b0 : Nat) (D : Dk) (H : DkH) (w : World) (hb : w.heap[b0]? = some (row 61 (dkC D H))) :
    Calls Tryd.prog 26 #[.pointer (some ⟨b0, 0, none⟩)] w fun e w' => e = .returned (.bool D.down) ∧ Fr [] w w' := by
  refine calls_of (args := [.pointer (some ⟨b0, 0, none⟩)]) ([]) ([]) ([]) Tryd.func26 rfl rfl (okW0 _ _ _ _) ?_
  refine J_seq ?_
  refine J_region ?_
  refine L_v rfl rfl rfl (V_assign rfl rfl) ?_
  refine L_nil ?_
  change J _ _ _ _
  refine J_seq ?_
  refine J_region ?_
  refine L_v rfl rfl rfl (V_move rfl rfl) ?_
  refine L_v rfl rfl rfl (V_neP rfl rfl rfl Tryd.underlying24 rfl) ?_
  refine L_v rfl rfl rfl (V_move rfl rfl) ?_
  refine L_wv rfl rfl rfl rfl rfl rfl (V_move rfl rfl) ?_
  refine L_wv rfl rfl rfl rfl rfl rfl (V_nilCheck rfl rfl) ?_
  refine L_wv rfl rfl rfl rfl rfl rfl (V_fieldAddr rfl rfl Tryd.underlying61 rfl sz4db rfl) ?_
  refine L_wv rfl rfl rfl rfl rfl rfl (V_loadF rfl rfl Tryd.underlying4 rfl (fun w hw => OkW.later hw rfl hb) rfl) ?_
  first | refine L_v rfl rfl rfl (V_pickT rfl rfl rfl) ?_ | refine L_v rfl rfl rfl (V_pickF rfl rfl rfl) ?_
  refine L_v rfl rfl rfl (V_assign rfl rfl) ?_
  refine L_nil ?_
  change J _ _ _ _
  refine J_ret ?_
  change Kret _ _ _ Exit.ret _
  refine ret1 rfl rfl (RV_t rfl) ?_
  exact fun w' h => ⟨rfl, h.fr⟩

theorem down_0 (w : World) :
    Calls Tryd.prog 26 #[.pointer none] w fun e w' => e = .returned (.bool false) ∧ Fr [] w w' := by
  refine calls_of (args := [.pointer none]) ([]) ([]) ([]) Tryd.func26 rfl rfl (okW0 _ _ _ _) ?_
  refine J_seq ?_
  refine J_region ?_
  refine L_v rfl rfl rfl (V_assign rfl rfl) ?_
  refine L_nil ?_
  change J _ _ _ _
  refine J_seq ?_
  refine J_region ?_
  refine L_v rfl rfl rfl (V_move rfl rfl) ?_
  refine L_v rfl rfl rfl (V_neP rfl rfl rfl Tryd.underlying24 rfl) ?_
  refine L_v rfl rfl rfl (V_move rfl rfl) ?_
  refine L_skip rfl rfl rfl rfl rfl rfl rfl ?_
  refine L_skip rfl rfl rfl rfl rfl rfl rfl ?_
  refine L_skip rfl rfl rfl rfl rfl rfl rfl ?_
  refine L_skip rfl rfl rfl rfl rfl rfl rfl ?_
  first | refine L_v rfl rfl rfl (V_pickT rfl rfl rfl) ?_ | refine L_v rfl rfl rfl (V_pickF rfl rfl rfl) ?_
  refine L_v rfl rfl rfl (V_assign rfl rfl) ?_
  refine L_nil ?_
  change J _ _ _ _
  refine J_ret ?_
  change Kret _ _ _ Exit.ret _
  refine ret1 rfl rfl (RV_t rfl) ?_
  exact fun w' h => ⟨rfl, h.fr⟩

set_option maxHeartbeats 1000000 in
theorem create_w (b0 : Nat) (D : Dk) (H : DkH) (f : ByteArray) (w : World) {k : Nat} (hM : MemAt w (dkM b0 D H)) (hG : Good D H) (hW : WfD D k) (hk : k ≤ 549755813888) :
    Calls Tryd.prog 10 #[.pointer (some ⟨b0, 0, none⟩), .string f] w fun e w' => DkP b0 D H w (createD D f) (.int .i64 (createE D f)) e w' := by
  have hbl := bs_len hG
  have hn1 := hW.n1
  refine calls_of (args := [.pointer (some ⟨b0, 0, none⟩), .string f]) ((dkM b0 D H).map (·.1)) (dkM b0 D H) ([]) Tryd.func10 rfl rfl (okMem hM (by simp)) ?_
  refine J_seq ?_
  refine J_region ?_
  refine L_v rfl rfl rfl (V_assign rfl rfl) ?_
  refine L_nil ?_
  change J _ _ _ _
  refine J_seq ?_
  refine J_seq ?_
  refine J_region ?_
  refine L_v rfl rfl rfl (V_move rfl rfl) ?_
  refine L_callV rfl rfl rfl rfl rfl rfl tx29db (fun w1 hw => ready_w b0 D H w1 (hw.at (i := 0) rfl)) ?_
  refine L_v rfl rfl rfl (V_assign rfl rfl) ?_
  refine L_nil ?_
  change J _ _ _ _
  refine J_seq ?_
  refine J_region ?_
  refine L_v rfl rfl rfl (V_move rfl rfl) ?_
  refine L_v rfl rfl rfl (V_neq rfl rfl rfl rfl) ?_
  refine L_nil ?_
  change J _ _ _ _
  refine J_cond rfl (fun h1 => ?_) (fun h1 => ?_)
  ·
    first | (have h1 := of_decide_eq_true h1) | (have h1 := of_decide_eq_false h1) | skip
    have hd := rdy_T h1
    refine J_seq ?_
    refine J_region ?_
    refine L_v rfl rfl rfl (V_move rfl rfl) ?_
    refine L_v rfl rfl rfl (V_assign rfl rfl) ?_
    refine L_nil ?_
    change J _ _ _ _
    refine J_ret ?_
    change Kret _ _ _ Exit.ret _
    refine ret1 rfl rfl (RV_t rfl) ?_
    have hx : createE D f = 90 := createE_1 hd
    rw [hd]
    exact fun w' h => DkP.no hG hx (createD_no hx (by decide)) (Upd.of h rfl (Pk.of_sub (List.Sublist.refl _)) (fun f hf => by cases hf) (fun f hf => by cases hf))
  ·
    first | (have h1 := of_decide_eq_true h1) | (have h1 := of_decide_eq_false h1) | skip
    have hd := rdy_F h1
    refine J_skip ?_
    change J _ _ _ _
    refine J_seq ?_
    refine J_region ?_
    refine L_v rfl rfl rfl (V_move rfl rfl) ?_
    refine L_v rfl rfl rfl (V_nilCheck rfl rfl) ?_
    refine L_v rfl rfl rfl (V_fieldAddr rfl rfl Tryd.underlying61 rfl sz57db rfl) ?_
    refine L_v rfl rfl rfl (V_load1 0 rfl rfl rfl Tryd.underlying57 rfl (by rfl)) ?_
    refine L_v rfl rfl rfl (V_move rfl rfl) ?_
    refine L_v rfl rfl rfl (V_lookupF rfl rfl rfl Tryd.underlying57 Tryd.underlying9 z3db (fun w1 hw => hw.at (i := 1) rfl) hG.n (hG.find f)) ?_
    refine L_v rfl rfl rfl (V_move rfl rfl) ?_
    refine L_v rfl rfl rfl (V_extract rfl rfl rfl) ?_
    refine L_v rfl rfl rfl (V_extract rfl rfl rfl) ?_
    refine L_v rfl rfl rfl (V_assign rfl rfl) ?_
    refine L_v rfl rfl rfl (V_assign rfl rfl) ?_
    refine L_nil ?_
    change J _ _ _ _
    refine J_seq ?_
    refine J_block ?_
    refine J_seq ?_
    refine J_region ?_
    refine L_v rfl rfl rfl (V_move rfl rfl) ?_
    refine L_callV rfl rfl rfl rfl rfl rfl tx30db (fun w1 hw => name_w f w1) ?_
    refine L_v rfl rfl rfl (V_not rfl rfl rfl) ?_
    refine L_v rfl rfl rfl (V_assign rfl rfl) ?_
    refine L_nil ?_
    change J _ _ _ _
    refine J_cond rfl (fun h2 => ?_) (fun h2 => ?_)
    ·
      first | (have h2 := of_decide_eq_true h2) | (have h2 := of_decide_eq_false h2) | skip
      have h2 : nameOk f = false := by simpa using h2
      refine J_seq ?_
      refine J_region ?_
      refine L_v rfl rfl rfl (V_assign rfl rfl) ?_
      refine L_nil ?_
      change J _ _ _ _
      refine J_ret ?_
      change Kret _ _ _ Exit.ret _
      refine ret1 rfl rfl (RV_t rfl) ?_
      have hx : createE D f = 91 := createE_2 hd h2
      exact fun w' h => DkP.no hG hx (createD_no hx (by decide)) (Upd.of h rfl (Pk.of_sub (List.Sublist.refl _)) (fun f hf => by cases hf) (fun f hf => by cases hf))
    ·
      first | (have h2 := of_decide_eq_true h2) | (have h2 := of_decide_eq_false h2) | skip
      have h2 : nameOk f = true := by simpa using h2
      refine J_seq ?_
      refine J_region ?_
      refine L_v rfl rfl rfl (V_move rfl rfl) ?_
      refine L_v rfl rfl rfl (V_not rfl rfl rfl) ?_
      refine L_v rfl rfl rfl (V_move rfl rfl) ?_
      apply L_and 6 29 36
      · rfl
      · rfl
      · rfl
      · rfl
      · rfl
      · rfl
      · rfl
      · kernel_rfl
      · intro hb3 _ _ hk3
        refine L_wv rfl rfl rfl rfl rfl rfl (V_move rfl rfl) ?_
        refine L_wv rfl rfl rfl rfl rfl rfl (V_nilCheck rfl rfl) ?_
        refine L_wv rfl rfl rfl rfl rfl rfl (V_fieldAddr rfl rfl Tryd.underlying61 rfl sz57db rfl) ?_
        refine L_wv rfl rfl rfl rfl rfl rfl (V_load1 0 rfl rfl rfl Tryd.underlying57 rfl (by rfl)) ?_
        refine L_wv rfl rfl rfl rfl rfl rfl (V_lenF rfl rfl Tryd.underlying57 (fun w1 hw => hw.at (i := 1) rfl) hG.n hG.alen) ?_
        refine L_wv rfl rfl rfl rfl rfl rfl (V_geq rfl rfl rfl rfl) ?_
        exact hk3 _ ⟨rfl, rfl, rfl, rfl, ext_cut 6 (by kernel_rfl) (by kernel_rfl)⟩
      refine L_v rfl rfl rfl (V_assign rfl rfl) ?_
      refine L_nil ?_
      change J _ _ _ _
      refine J_cond rfl (fun h4 => ?_) (fun h4 => ?_)
      ·
        first | (have h4 := of_decide_eq_true h4) | (have h4 := of_decide_eq_false h4) | skip
        have h4 := full_iff.1 h4
        refine J_seq ?_
        refine J_region ?_
        refine L_v rfl rfl rfl (V_assign rfl rfl) ?_
        refine L_nil ?_
        change J _ _ _ _
        refine J_ret ?_
        change Kret _ _ _ Exit.ret _
        refine ret1 rfl rfl (RV_t rfl) ?_
        have hx : createE D f = 92 := createE_3 hd h2 h4
        exact fun w' h => DkP.no hG hx (createD_no hx (by decide)) (Upd.of h rfl (Pk.of_sub (List.Sublist.refl _)) (fun f hf => by cases hf) (fun f hf => by cases hf))
      ·
        first | (have h4 := of_decide_eq_true h4) | (have h4 := of_decide_eq_false h4) | skip
        have h4 := mt full_iff.2 (by rw [h4]; decide)
        have hx := createE_4 hd h2 h4
        refine J_skip ?_
        change J _ _ _ _
        refine J_seq ?_
        refine J_region ?_
        refine L_v rfl rfl rfl (V_move rfl rfl) ?_
        refine L_v rfl rfl rfl (V_move rfl rfl) ?_
        refine L_v rfl rfl rfl (V_nilCheck rfl rfl) ?_
        refine L_v rfl rfl rfl (V_fieldAddr rfl rfl Tryd.underlying61 rfl sz58db rfl) ?_
        refine L_v rfl rfl rfl (V_load1 0 rfl rfl rfl Tryd.underlying58 rfl (by rfl)) ?_
        refine L_v rfl rfl rfl (V_buildE (v := .agg (boV (bo0, none)).toArray) rfl rfl (fun w => by kernel_rfl)) ?_
        refine L_buildSlice (vs := [(0, .agg (boV (bo0, none)).toArray)]) (l := boV (bo0, none)) rfl rfl rfl rfl rfl bsB (fun b1 => ?_)
        refine L_cons rfl (S_appendP ([(b0, row 61 (dkC D H)), (H.mn, .map H.en H.cn), (H.ms, .map H.es H.cs)] ++ pM 68 H.qc (chR D.ch)) (bytM H.bs ++ [(b1, row 65 (boV (bo0, none)))]) H.qb (boR H.bs) (n := H.bs.length) (m := 1) (news := boV (bo0, none)) rfl rfl rfl rfl Tryd.underlying58 elB (by show (_ :: _ :: _ :: (_ ++ (_ ++ _))) ++ [_] = _; simp only [List.cons_append, List.append_assoc, List.nil_append]) hG.b (fun w1 hw => src_C Tryd.underlying58 (SlC.in (r := []) (fz := (0, 0)) hw (List.mem_append_right _ (List.mem_singleton.2 rfl)) rfl 1) (all_one (by kernel_rfl))) (by omega) (by omega) (fun q' hq' => ?_))
        refine L_v rfl rfl rfl (V_nilCheck rfl rfl) ?_
        refine L_v rfl rfl rfl (V_fieldAddr rfl rfl Tryd.underlying61 rfl sz58db rfl) ?_
        refine L_store1 0 (l' := dkT D.room (pV q' (H.bs.length + 1)) (.map (some H.mn)) (.map (some H.ms)) (pV H.qc D.ch.length) D.down D.stops D.left) rfl rfl rfl rfl rfl rfl rfl sz58db (Nat.le_of_ble_eq_true (by kernel_rfl)) (by kernel_rfl) ?_
        refine L_nil ?_
        change J _ _ _ _
        refine J_seq ?_
        refine J_pk (dkM b0 { D with bo := D.bo ++ [bo0] } { H with qb := q', bs := H.bs ++ [(bo0, none)] }) (Pk.of_sub (by rw [add_M]; exact show List.Sublist (_ :: _ :: _ :: (pM 68 _ _ ++ (pM 65 _ _ ++ bytM _))) (_ :: _ :: _ :: (pM 68 _ _ ++ (pM 65 _ _ ++ (bytM _ ++ _)))) from List.Sublist.cons_cons _ (List.Sublist.cons_cons _ (List.Sublist.cons_cons _ (List.Sublist.append (List.Sublist.refl _) (List.Sublist.append (List.Sublist.refl _) (List.sublist_append_left _ _))))))) ?_
        refine J_region ?_
        refine L_v rfl rfl rfl (V_move rfl rfl) ?_
        refine L_v rfl rfl rfl (V_move rfl rfl) ?_
        refine L_v rfl rfl rfl (V_move rfl rfl) ?_
        refine L_v rfl rfl rfl (V_nilCheck rfl rfl) ?_
        refine L_v rfl rfl rfl (V_fieldAddr rfl rfl Tryd.underlying61 rfl sz58db rfl) ?_
        refine L_v rfl rfl rfl (V_load1 0 rfl rfl rfl Tryd.underlying58 rfl (by rfl)) ?_
        refine L_v rfl rfl rfl (V_len rfl rfl Tryd.underlying58 rfl) ?_
        refine L_v rfl rfl rfl (V_sub (r := ((D.bo.length : Nat) : Int)) rfl rfl rfl (by have e9 : (H.bs ++ [(bo0, none)]).length = D.bo.length + 1 := (by rw [List.length_append, hbl]; rfl); rw [IntKind.wrap_i64]; simp only [e9]; omega)) ?_
        refine L_v rfl rfl rfl (V_buildE (v := .agg (chV (e0, f, D.bo.length)).toArray) rfl rfl (fun w => by kernel_rfl)) ?_
        refine L_call rfl rfl rfl rfl tx31db (fun w1 hw => (change_w b0 { D with bo := D.bo ++ [bo0] } { H with qb := q', bs := H.bs ++ [(bo0, none)] } (e0, f, D.bo.length) w1 (hw.memAt (List.Sublist.refl _)) (add_good hG hq') (hW.addB) hd (by omega)).mono ?_)
        rintro e w' ⟨H', rfl, hG', hU⟩
        refine ⟨_, _, _, rfl, OkW.upd (m1 := []) hw hU, rfl, ?_⟩
        refine L_v rfl rfl rfl (V_assign rfl rfl) ?_
        refine L_nil ?_
        change J _ _ _ _
        refine J_ret ?_
        change Kret _ _ _ Exit.ret _
        refine ret1 rfl rfl (RV_t rfl) ?_
        exact fun w' h => DkP.ok hx (createD_0 hx) ⟨H', rfl, hG', Upd.of h rfl (Pk.of_sub (List.Sublist.refl _)) (fun f hf => by cases hf) (fun f hf => by cases hf)⟩

theorem rename_w (b0 : Nat) (D : Dk) (H : DkH) (f t : ByteArray) (w : World) {k : Nat} (hM : MemAt w (dkM b0 D H)) (hG : Good D H) (hW : WfD D k) (hk : k ≤ 549755813888) :
    Calls Tryd.prog 14 #[.pointer (some ⟨b0, 0, none⟩), .string f, .string t] w fun e w' => DkP b0 D H w (renameD D f t) (.int .i64 (renameE D f t)) e w' := by
  refine calls_of (args := [.pointer (some ⟨b0, 0, none⟩), .string f, .string t]) ((dkM b0 D H).map (·.1)) (dkM b0 D H) ([]) Tryd.func14 rfl rfl (okMem hM (by simp)) ?_
  by_cases hE : nameE D f = 0
  ·
    obtain ⟨hd, i, hi⟩ := nameE_0 hE
    refine J_seq ?_
    refine J_region ?_
    refine L_v rfl rfl rfl (V_assign rfl rfl) ?_
    refine L_nil ?_
    change J _ _ _ _
    refine J_seq ?_
    refine J_region ?_
    refine L_v rfl rfl rfl (V_move rfl rfl) ?_
    refine L_v rfl rfl rfl (V_move rfl rfl) ?_
    refine L_callV rfl rfl rfl rfl rfl rfl tx32db (fun w1 hw => (of_w b0 D H f w1 (hw.at (i := 0) rfl) (hw.at (i := 1) rfl) hG).mono fun e w2 h => ⟨by rw [h.1, hE, ofV_3 hd hi], h.2⟩) ?_
    refine L_v rfl rfl rfl (V_move rfl rfl) ?_
    refine L_v rfl rfl rfl (V_extract rfl rfl rfl) ?_
    refine L_v rfl rfl rfl (V_extract rfl rfl rfl) ?_
    refine L_v rfl rfl rfl (V_assign rfl rfl) ?_
    refine L_v rfl rfl rfl (V_assign rfl rfl) ?_
    refine L_nil ?_
    change J _ _ _ _
    refine J_seq ?_
    refine J_block ?_
    refine J_seq ?_
    refine J_region ?_
    refine L_v rfl rfl rfl (V_move rfl rfl) ?_
    refine L_v rfl rfl rfl (V_neq rfl rfl rfl rfl) ?_
    refine L_v rfl rfl rfl (V_assign rfl rfl) ?_
    refine L_nil ?_
    change J _ _ _ _
    refine J_false rfl ?_
    refine J_seq ?_
    refine J_region ?_
    refine L_v rfl rfl rfl (V_move rfl rfl) ?_
    refine L_callV rfl rfl rfl rfl rfl rfl tx30db (fun w1 hw => name_w t w1) ?_
    refine L_v rfl rfl rfl (V_not rfl rfl rfl) ?_
    refine L_v rfl rfl rfl (V_assign rfl rfl) ?_
    refine L_nil ?_
    change J _ _ _ _
    refine J_cond rfl (fun h1 => ?_) (fun h1 => ?_)
    ·
      first | (have h1 := of_decide_eq_true h1) | (have h1 := of_decide_eq_false h1) | skip
      have h1 : nameOk t = false := by simpa using h1
      refine J_seq ?_
      refine J_region ?_
      refine L_v rfl rfl rfl (V_assign rfl rfl) ?_
      refine L_nil ?_
      change J _ _ _ _
      refine J_ret ?_
      change Kret _ _ _ Exit.ret _
      refine ret1 rfl rfl (RV_t rfl) ?_
      have hx : renameE D f t = 91 := renameE_2 hd hi h1
      exact fun w' h => DkP.no hG hx (renameD_no hx (by decide)) (Upd.of h rfl (Pk.of_sub (List.Sublist.refl _)) (fun f hf => by cases hf) (fun f hf => by cases hf))
    ·
      first | (have h1 := of_decide_eq_true h1) | (have h1 := of_decide_eq_false h1) | skip
      have h1 : nameOk t = true := by simpa using h1
      have hx := renameE_3 hd hi h1
      refine J_skip ?_
      change J _ _ _ _
      refine J_seq ?_
      refine J_region ?_
      refine L_v rfl rfl rfl (V_move rfl rfl) ?_
      refine L_v rfl rfl rfl (V_move rfl rfl) ?_
      refine L_v rfl rfl rfl (V_move rfl rfl) ?_
      refine L_v rfl rfl rfl (V_move rfl rfl) ?_
      refine L_v rfl rfl rfl (V_buildE (v := .agg (chV (f, t, i)).toArray) rfl rfl (fun w => by kernel_rfl)) ?_
      refine L_call rfl rfl rfl rfl tx31db (fun w1 hw => (change_w b0 D H (f, t, i) w1 (hw.memAt (List.Sublist.refl _)) hG hW hd (by omega)).mono ?_)
      rintro e w' ⟨H', rfl, hG', hU⟩
      refine ⟨_, _, _, rfl, OkW.upd (m1 := []) hw hU, rfl, ?_⟩
      refine L_v rfl rfl rfl (V_assign rfl rfl) ?_
      refine L_nil ?_
      change J _ _ _ _
      refine J_ret ?_
      change Kret _ _ _ Exit.ret _
      refine ret1 rfl rfl (RV_t rfl) ?_
      exact fun w' h => DkP.ok hx (renameD_0 hx hi) ⟨H', rfl, hG', Upd.of h rfl (Pk.of_sub (List.Sublist.refl _)) (fun f hf => by cases hf) (fun f hf => by cases hf)⟩
  ·
    refine J_seq ?_
    refine J_region ?_
    refine L_v rfl rfl rfl (V_assign rfl rfl) ?_
    refine L_nil ?_
    change J _ _ _ _
    refine J_seq ?_
    refine J_region ?_
    refine L_v rfl rfl rfl (V_move rfl rfl) ?_
    refine L_v rfl rfl rfl (V_move rfl rfl) ?_
    refine L_callV rfl rfl rfl rfl rfl rfl tx32db (fun w1 hw => (of_w b0 D H f w1 (hw.at (i := 0) rfl) (hw.at (i := 1) rfl) hG).mono fun e w2 h => ⟨by rw [h.1, ofV_0 hE], h.2⟩) ?_
    refine L_v rfl rfl rfl (V_move rfl rfl) ?_
    refine L_v rfl rfl rfl (V_extract rfl rfl rfl) ?_
    refine L_v rfl rfl rfl (V_extract rfl rfl rfl) ?_
    refine L_v rfl rfl rfl (V_assign rfl rfl) ?_
    refine L_v rfl rfl rfl (V_assign rfl rfl) ?_
    refine L_nil ?_
    change J _ _ _ _
    refine J_seq ?_
    refine J_block ?_
    refine J_seq ?_
    refine J_region ?_
    refine L_v rfl rfl rfl (V_move rfl rfl) ?_
    refine L_v rfl rfl rfl (V_neq rfl rfl rfl rfl) ?_
    refine L_v rfl rfl rfl (V_assign rfl rfl) ?_
    refine L_nil ?_
    change J _ _ _ _
    refine J_cond rfl (fun h1 => ?_) (fun h1 => ?_)
    ·
      first | (have h1 := of_decide_eq_true h1) | (have h1 := of_decide_eq_false h1) | skip
      refine J_seq ?_
      refine J_region ?_
      refine L_v rfl rfl rfl (V_move rfl rfl) ?_
      refine L_v rfl rfl rfl (V_assign rfl rfl) ?_
      refine L_nil ?_
      change J _ _ _ _
      refine J_ret ?_
      change Kret _ _ _ Exit.ret _
      refine ret1 rfl rfl (RV_t rfl) ?_
      exact fun w' h => DkP.no hG (renameE_1 hE) (renameD_no (renameE_1 hE) hE) (Upd.of h rfl (Pk.of_sub (List.Sublist.refl _)) (fun f hf => by cases hf) (fun f hf => by cases hf))
    ·
      first | (have h1 := of_decide_eq_true h1) | (have h1 := of_decide_eq_false h1) | skip
      exact absurd (Classical.not_not.1 h1) hE

theorem remove_w (b0 : Nat) (D : Dk) (H : DkH) (f : ByteArray) (w : World) {k : Nat} (hM : MemAt w (dkM b0 D H)) (hG : Good D H) (hW : WfD D k) (hk : k ≤ 549755813888) :
    Calls Tryd.prog 19 #[.pointer (some ⟨b0, 0, none⟩), .string f] w fun e w' => DkP b0 D H w (removeD D f) (.int .i64 (nameE D f)) e w' := by
  refine calls_of (args := [.pointer (some ⟨b0, 0, none⟩), .string f]) ((dkM b0 D H).map (·.1)) (dkM b0 D H) ([]) Tryd.func19 rfl rfl (okMem hM (by simp)) ?_
  by_cases hE : nameE D f = 0
  ·
    obtain ⟨hd, i, hi⟩ := nameE_0 hE
    refine J_seq ?_
    refine J_region ?_
    refine L_v rfl rfl rfl (V_assign rfl rfl) ?_
    refine L_nil ?_
    change J _ _ _ _
    refine J_seq ?_
    refine J_seq ?_
    refine J_region ?_
    refine L_v rfl rfl rfl (V_move rfl rfl) ?_
    refine L_v rfl rfl rfl (V_move rfl rfl) ?_
    refine L_callV rfl rfl rfl rfl rfl rfl tx32db (fun w1 hw => (of_w b0 D H f w1 (hw.at (i := 0) rfl) (hw.at (i := 1) rfl) hG).mono fun e w2 h => ⟨by rw [h.1, hE, ofV_3 hd hi], h.2⟩) ?_
    refine L_v rfl rfl rfl (V_move rfl rfl) ?_
    refine L_v rfl rfl rfl (V_extract rfl rfl rfl) ?_
    refine L_v rfl rfl rfl (V_extract rfl rfl rfl) ?_
    refine L_v rfl rfl rfl (V_assign rfl rfl) ?_
    refine L_v rfl rfl rfl (V_assign rfl rfl) ?_
    refine L_nil ?_
    change J _ _ _ _
    refine J_seq ?_
    refine J_region ?_
    refine L_v rfl rfl rfl (V_move rfl rfl) ?_
    refine L_v rfl rfl rfl (V_neq rfl rfl rfl rfl) ?_
    refine L_nil ?_
    change J _ _ _ _
    refine J_false rfl ?_
    refine J_skip ?_
    change J _ _ _ _
    refine J_seq ?_
    refine J_region ?_
    refine L_v rfl rfl rfl (V_move rfl rfl) ?_
    refine L_v rfl rfl rfl (V_move rfl rfl) ?_
    refine L_v rfl rfl rfl (V_buildE (v := .agg (chV (f, e0, 0)).toArray) rfl rfl (fun w => by kernel_rfl)) ?_
    refine L_call rfl rfl rfl rfl tx31db (fun w1 hw => (change_w b0 D H (f, e0, 0) w1 (hw.memAt (List.Sublist.refl _)) hG hW hd (by omega)).mono ?_)
    rintro e w' ⟨H', rfl, hG', hU⟩
    refine ⟨_, _, _, rfl, OkW.upd (m1 := []) hw hU, rfl, ?_⟩
    refine L_v rfl rfl rfl (V_assign rfl rfl) ?_
    refine L_nil ?_
    change J _ _ _ _
    refine J_ret ?_
    change Kret _ _ _ Exit.ret _
    refine ret1 rfl rfl (RV_t rfl) ?_
    exact fun w' h => DkP.ok hE (removeD_0 hE) ⟨H', rfl, hG', Upd.of h rfl (Pk.of_sub (List.Sublist.refl _)) (fun f hf => by cases hf) (fun f hf => by cases hf)⟩
  ·
    refine J_seq ?_
    refine J_region ?_
    refine L_v rfl rfl rfl (V_assign rfl rfl) ?_
    refine L_nil ?_
    change J _ _ _ _
    refine J_seq ?_
    refine J_seq ?_
    refine J_region ?_
    refine L_v rfl rfl rfl (V_move rfl rfl) ?_
    refine L_v rfl rfl rfl (V_move rfl rfl) ?_
    refine L_callV rfl rfl rfl rfl rfl rfl tx32db (fun w1 hw => (of_w b0 D H f w1 (hw.at (i := 0) rfl) (hw.at (i := 1) rfl) hG).mono fun e w2 h => ⟨by rw [h.1, ofV_0 hE], h.2⟩) ?_
    refine L_v rfl rfl rfl (V_move rfl rfl) ?_
    refine L_v rfl rfl rfl (V_extract rfl rfl rfl) ?_
    refine L_v rfl rfl rfl (V_extract rfl rfl rfl) ?_
    refine L_v rfl rfl rfl (V_assign rfl rfl) ?_
    refine L_v rfl rfl rfl (V_assign rfl rfl) ?_
    refine L_nil ?_
    change J _ _ _ _
    refine J_seq ?_
    refine J_region ?_
    refine L_v rfl rfl rfl (V_move rfl rfl) ?_
    refine L_v rfl rfl rfl (V_neq rfl rfl rfl rfl) ?_
    refine L_nil ?_
    change J _ _ _ _
    refine J_cond rfl (fun h1 => ?_) (fun h1 => ?_)
    ·
      first | (have h1 := of_decide_eq_true h1) | (have h1 := of_decide_eq_false h1) | skip
      refine J_seq ?_
      refine J_region ?_
      refine L_v rfl rfl rfl (V_move rfl rfl) ?_
      refine L_v rfl rfl rfl (V_assign rfl rfl) ?_
      refine L_nil ?_
      change J _ _ _ _
      refine J_ret ?_
      change Kret _ _ _ Exit.ret _
      refine ret1 rfl rfl (RV_t rfl) ?_
      exact fun w' h => DkP.no hG rfl (removeD_no hE) (Upd.of h rfl (Pk.of_sub (List.Sublist.refl _)) (fun f hf => by cases hf) (fun f hf => by cases hf))
    ·
      first | (have h1 := of_decide_eq_true h1) | (have h1 := of_decide_eq_false h1) | skip
      exact absurd (Classical.not_not.1 h1) hE

theorem sync_w (b0 : Nat) (D : Dk) (H : DkH) (f : ByteArray) (w : World) {k : Nat} (hM : MemAt w (dkM b0 D H)) (hG : Good D H) (hW : WfD D k) (hk : k ≤ 549755813888) :
    Calls Tryd.prog 12 #[.pointer (some ⟨b0, 0, none⟩), .string f] w fun e w' => DkP b0 D H w (syncD D f) (.int .i64 (nameE D f)) e w' := by
  have hbl := bs_len hG
  refine calls_of (args := [.pointer (some ⟨b0, 0, none⟩), .string f]) ((dkM b0 D H).map (·.1)) (dkM b0 D H) ([]) Tryd.func12 rfl rfl (okMem hM (by simp)) ?_
  by_cases hE : nameE D f = 0
  ·
    obtain ⟨hd, i, hi⟩ := nameE_0 hE
    refine J_seq ?_
    refine J_region ?_
    refine L_v rfl rfl rfl (V_assign rfl rfl) ?_
    refine L_nil ?_
    change J _ _ _ _
    refine J_seq ?_
    refine J_region ?_
    refine L_v rfl rfl rfl (V_move rfl rfl) ?_
    refine L_v rfl rfl rfl (V_move rfl rfl) ?_
    refine L_callV rfl rfl rfl rfl rfl rfl tx32db (fun w1 hw => (of_w b0 D H f w1 (hw.at (i := 0) rfl) (hw.at (i := 1) rfl) hG).mono fun e w2 h => ⟨by rw [h.1, hE, ofV_3 hd hi], h.2⟩) ?_
    refine L_v rfl rfl rfl (V_move rfl rfl) ?_
    refine L_v rfl rfl rfl (V_extract rfl rfl rfl) ?_
    refine L_v rfl rfl rfl (V_extract rfl rfl rfl) ?_
    refine L_v rfl rfl rfl (V_assign rfl rfl) ?_
    refine L_v rfl rfl rfl (V_assign rfl rfl) ?_
    refine L_nil ?_
    change J _ _ _ _
    refine J_seq ?_
    refine J_seq ?_
    refine J_region ?_
    refine L_v rfl rfl rfl (V_move rfl rfl) ?_
    refine L_v rfl rfl rfl (V_neq rfl rfl rfl rfl) ?_
    refine L_nil ?_
    change J _ _ _ _
    refine J_false rfl ?_
    have hil := hW.find_lt hi
    obtain ⟨q, hq⟩ := bs_get hG hil
    have hAt : ∃ b off, pA H.qb = some ⟨b, off, none⟩ := hG.b.at (by omega)
    have hqx := hG.q _ (List.mem_of_getElem? hq)
    refine J_skip ?_
    change J _ _ _ _
    refine J_seq ?_
    refine J_regionO (.pure 0 (.pure 1 (.pure 2 (.pure 3 (.pure 4 (.pure 5 (.pure 6 (.pure 7 (.pure 8 (.pure 9 (.pure 10 (.pure 11 (.one 12 (.pure 13 (.pure 14 (.pure 15 (.one 16 (.nil)))))))))))))))))) ([(b0, row 61 (dkC D H))]) _ (Pk.of_sub (List.Sublist.cons_cons _ (List.nil_sublist _))) (fun f hf => hf) rfl rfl (by kernel_rfl) ?_
    refine LO_v rfl rfl rfl rfl (V_move rfl rfl) ?_
    refine LO_v rfl rfl rfl rfl (V_nilCheck rfl rfl) ?_
    refine LO_v rfl rfl rfl rfl (V_fieldAddr rfl rfl Tryd.underlying61 rfl sz58db rfl) ?_
    refine LO_v rfl rfl rfl rfl (V_load1 0 rfl rfl rfl Tryd.underlying58 rfl (by rfl)) ?_
    refine LO_v rfl rfl rfl rfl (V_move rfl rfl) ?_
    refine LO_v rfl rfl rfl rfl (V_move rfl rfl) ?_
    refine LO_v rfl rfl rfl rfl (V_nilCheck rfl rfl) ?_
    refine LO_v rfl rfl rfl rfl (V_fieldAddr rfl rfl Tryd.underlying61 rfl sz58db rfl) ?_
    refine LO_v rfl rfl rfl rfl (V_load1 0 rfl rfl rfl Tryd.underlying58 rfl (by rfl)) ?_
    refine LO_v rfl rfl rfl rfl (V_move rfl rfl) ?_
    refine LO_v rfl rfl rfl rfl (V_indexN rfl rfl rfl Tryd.underlying58 sz65db hAt (by omega) (by omega)) ?_
    refine LO_v rfl rfl rfl rfl (V_fieldC rfl rfl (fun _ _ => hAt) Tryd.underlying65 rfl sz22db rfl) ?_
    refine LO_s rfl rfl rfl (S_v rfl rfl (V_loadC rfl rfl Tryd.underlying22 rfl (fun w hw => (hG.slB hw (fun p hp => List.mem_cons_of_mem _ (List.mem_cons_of_mem _ (List.mem_cons_of_mem _ hp))))) (boR_at hq 0 (by decide))) ⟨(Pk.of_sub (List.Sublist.cons_cons _ (List.nil_sublist _))), (fun f hf => hf), ?_⟩)
    refine LO_v rfl rfl rfl rfl (V_len rfl rfl Tryd.underlying22 rfl) ?_
    refine LO_v rfl rfl rfl rfl (V_indexN rfl rfl rfl Tryd.underlying58 sz65db hAt (by omega) (by omega)) ?_
    refine LO_v rfl rfl rfl rfl (V_fieldC rfl rfl (fun _ _ => hAt) Tryd.underlying65 rfl sz3db rfl) ?_
    refine LO_s rfl rfl rfl (S_storeP (e := 65) ([(b0, row 61 (dkC D H)), (H.mn, .map H.en H.cn), (H.ms, .map H.es H.cs)] ++ pM 68 H.qc (chR D.ch)) (bytM H.bs) H.qb (boR H.bs) rfl rfl rfl rfl (by show _ :: _ :: _ :: (_ ++ (_ ++ _)) = _; simp only [List.cons_append, List.append_assoc, List.nil_append]) hG.b (by rw [boR_len]; show i * 2 + 1 < _; omega) rfl sz3db ⟨(Pk.of_sub (List.Sublist.cons_cons _ (List.nil_sublist _))), (fun f hf => hf), ?_⟩)
    refine LO_nil ?_
    change J _ _ _ _
    refine J_seq ?_
    refine J_pk (dkM b0 (D.setB i ((D.bo.getD i bo0).1, (D.bo.getD i bo0).1.length)) { H with bs := H.bs.set i (((D.bo.getD i bo0).1, (D.bo.getD i bo0).1.length), q) }) (Pk.of_sub (by rw [sync_M b0 D H hq]; exact show List.Sublist (_ :: _ :: _ :: (pM 68 _ _ ++ (pM 65 _ _ ++ bytM _))) (_ :: _ :: _ :: (pM 68 _ _ ++ (pM 65 _ _ ++ bytM _))) from List.Sublist.refl _)) ?_
    refine J_region ?_
    refine L_v rfl rfl rfl (V_move rfl rfl) ?_
    refine L_call rfl rfl rfl rfl tx33db (fun w1 hw => (step_w b0 (D.setB i ((D.bo.getD i bo0).1, (D.bo.getD i bo0).1.length)) { H with bs := H.bs.set i (((D.bo.getD i bo0).1, (D.bo.getD i bo0).1.length), q) } w1 (hw.at (i := 0) rfl) (fun hs => hW.lf hs hd)).mono ?_)
    rintro e w' ⟨rfl, hfr, hb'⟩
    refine ⟨_, _, _, rfl, hw.set (i := 0) rfl hfr hb', rfl, ?_⟩
    refine L_v rfl rfl rfl (V_assign rfl rfl) ?_
    refine L_nil ?_
    change J _ _ _ _
    refine J_ret ?_
    change Kret _ _ _ Exit.ret _
    refine ret1 rfl rfl (RV_t rfl) ?_
    exact fun w' h => DkP.ok hE (syncD_0 hE hi) ⟨{ H with bs := H.bs.set i (((D.bo.getD i bo0).1, (D.bo.getD i bo0).1.length), q) }, rfl, (setB_good (x := ((D.bo.getD i bo0).1, (D.bo.getD i bo0).1.length)) hG hil hqx).same rfl rfl rfl, Upd.of h rfl (Pk.of_sub (List.Sublist.refl _)) (fun f hf => by cases hf) (fun f hf => by cases hf)⟩
  ·
    refine J_seq ?_
    refine J_region ?_
    refine L_v rfl rfl rfl (V_assign rfl rfl) ?_
    refine L_nil ?_
    change J _ _ _ _
    refine J_seq ?_
    refine J_region ?_
    refine L_v rfl rfl rfl (V_move rfl rfl) ?_
    refine L_v rfl rfl rfl (V_move rfl rfl) ?_
    refine L_callV rfl rfl rfl rfl rfl rfl tx32db (fun w1 hw => (of_w b0 D H f w1 (hw.at (i := 0) rfl) (hw.at (i := 1) rfl) hG).mono fun e w2 h => ⟨by rw [h.1, ofV_0 hE], h.2⟩) ?_
    refine L_v rfl rfl rfl (V_move rfl rfl) ?_
    refine L_v rfl rfl rfl (V_extract rfl rfl rfl) ?_
    refine L_v rfl rfl rfl (V_extract rfl rfl rfl) ?_
    refine L_v rfl rfl rfl (V_assign rfl rfl) ?_
    refine L_v rfl rfl rfl (V_assign rfl rfl) ?_
    refine L_nil ?_
    change J _ _ _ _
    refine J_seq ?_
    refine J_seq ?_
    refine J_region ?_
    refine L_v rfl rfl rfl (V_move rfl rfl) ?_
    refine L_v rfl rfl rfl (V_neq rfl rfl rfl rfl) ?_
    refine L_nil ?_
    change J _ _ _ _
    refine J_cond rfl (fun h1 => ?_) (fun h1 => ?_)
    ·
      first | (have h1 := of_decide_eq_true h1) | (have h1 := of_decide_eq_false h1) | skip
      refine J_seq ?_
      refine J_region ?_
      refine L_v rfl rfl rfl (V_move rfl rfl) ?_
      refine L_v rfl rfl rfl (V_assign rfl rfl) ?_
      refine L_nil ?_
      change J _ _ _ _
      refine J_ret ?_
      change Kret _ _ _ Exit.ret _
      refine ret1 rfl rfl (RV_t rfl) ?_
      exact fun w' h => DkP.no hG rfl (syncD_no hE) (Upd.of h rfl (Pk.of_sub (List.Sublist.refl _)) (fun f hf => by cases hf) (fun f hf => by cases hf))
    ·
      first | (have h1 := of_decide_eq_true h1) | (have h1 := of_decide_eq_false h1) | skip
      exact absurd (Classical.not_not.1 h1) hE

end Go.Proofs.YtcbpgnjlbbjieaaDoor
