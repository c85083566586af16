/- A call of a script, done to the document's disk. -/
import Derived.Test.YtcbpgnjlbbjieaaDoorD13
set_option linter.unusedVariables false
set_option linter.unusedSimpArgs false
set_option maxRecDepth 100000
namespace Go.Proofs.YtcbpgnjlbbjieaaDoor
open Go.Sx
theorem hf_sub {cx : Cx} {m m' : Mem} {fs gs : List Fact} {w : World} (h : OkW cx m fs w) (hm : List.Sublist m' m) (hg : ∀ g ∈ gs, ∃ f ∈ fs, (f.p w → g.p w) ∧ ∀ k, g.fp k → f.fp k) : ∀ g ∈ gs, g.p w ∧ ∀ k, g.fp k → k < w.heap.size ∧ k ∉ m'.map (·.1) := by
  intro g hg'
  obtain ⟨f, hf, h1, h2⟩ := hg g hg'
  have h3 := h.facts f hf
  exact ⟨h1 h3.1, fun k hk => ⟨(h3.2 k (h2 k hk)).1, fun hkm => (h3.2 k (h2 k hk)).2 ((hm.map _).subset hkm)⟩⟩
theorem RkP.fin {m : Nat} {D D' D1 : Dk} {H H1 : RkH} {w w' : World} {E e : Int} (he : E = e) (hD : D' = D1) (hG : GoodR D1 H1) (hU : UpdG (rkM m D H) [rkF D H] w w' (rkM m D1 H1) (rkF D1 H1)) : RkP m D H w D' (.int .i64 E) (.returned (.int .i64 e)) w' := by
  subst he hD
  exact ⟨H1, rfl, hG, hU⟩
theorem sz3dn : (Tryd.prog.info? 3).map (·.size) = some 1 := by kernel_rfl
theorem sz5dn : (Tryd.prog.info? 5).map (·.size) = some 1 := by kernel_rfl
theorem sz9dn : (Tryd.prog.info? 9).map (·.size) = some 1 := by kernel_rfl
theorem sz22dn : (Tryd.prog.info? 22).map (·.size) = some 1 := by kernel_rfl
theorem sz23dn : (Tryd.prog.info? 23).map (·.size) = some 1 := by kernel_rfl
theorem tx41dn : Txt Tryd.prog 41 := txt_of Tryd.func41 rfl (by kernel_rfl)
theorem tx42dn : Txt Tryd.prog 42 := txt_of Tryd.func42 rfl (by kernel_rfl)
theorem tx43dn : Txt Tryd.prog 43 := txt_of Tryd.func43 rfl (by kernel_rfl)
theorem tx44dn : Txt Tryd.prog 44 := txt_of Tryd.func44 rfl (by kernel_rfl)
theorem tx45dn : Txt Tryd.prog 45 := txt_of Tryd.func45 rfl (by kernel_rfl)
theorem tx46dn : Txt Tryd.prog 46 := txt_of Tryd.func46 rfl (by kernel_rfl)
theorem tx47dn : Txt Tryd.prog 47 := txt_of Tryd.func47 rfl (by kernel_rfl)
theorem tx48dn : Txt Tryd.prog 48 := txt_of Tryd.func48 rfl (by kernel_rfl)

set_option maxHeartbeats 4000000 in
theorem model_w (b1 : Nat) (D : Dk) (H : RkH) (o : OpV) (w : World) {k : Nat} (hM : MemAt w (rkM b1 D H)) (hG : GoodR D H) (hW : WfD D k) (hF : ∀ f ∈ [rkF D H, opF o], f.p w ∧ ∀ k, f.fp k → k < w.heap.size ∧ k ∉ (rkM b1 D H).map (·.1)) (hk : k ≤ 549755813888) (hz : o.file.size ≤ 9223372036854775807 ∧ o.to.size ≤ 9223372036854775807) :
    Calls Tryd.prog 23 #[.pointer (some ⟨b1, 0, none⟩), .agg (opC o).toArray] w fun e w' => RkP b1 D H w (opD D o) (.int .i64 (opE D o)) e w' := by
  refine calls_of (args := [.pointer (some ⟨b1, 0, none⟩), .agg (opC o).toArray]) ((rkM b1 D H).map (·.1)) (rkM b1 D H) ([rkF D H, opF o]) Tryd.func23 rfl rfl (okMem hM hF) ?_
  refine J_seq ?_
  refine J_region ?_
  refine L_box rfl rfl rfl rfl rfl (fun b0 => ?_)
  refine L_pk ((b0, row 47 (opC o)) :: rkM b1 D H) (Pk.front _ _) ?_
  refine L_v rfl rfl rfl (V_assign rfl rfl) ?_
  refine L_nil ?_
  change J _ _ _ _
  refine J_seq ?_
  refine J_seq ?_
  refine J_region ?_
  refine L_v rfl rfl rfl (V_fieldAddr rfl rfl Tryd.underlying47 rfl sz3dn rfl) ?_
  refine L_v rfl rfl rfl (V_load1 0 rfl rfl rfl Tryd.underlying3 rfl (by rfl)) ?_
  refine L_nil ?_
  change J _ _ _ _
  refine J_block ?_
  refine J_seq ?_
  refine J_region ?_
  refine L_v rfl rfl rfl (V_eql rfl rfl rfl rfl) ?_
  refine L_v rfl rfl rfl (V_assign rfl rfl) ?_
  refine L_nil ?_
  change J _ _ _ _
  refine J_cond rfl (fun h1 => ?_) (fun h1 => ?_)
  ·
    first | (have h1 := of_decide_eq_true h1) | (have h1 := of_decide_eq_false h1) | skip
    refine J_seq ?_
    refine J_region ?_
    refine L_v rfl rfl rfl (V_move rfl rfl) ?_
    refine L_v rfl rfl rfl (V_fieldAddr rfl rfl Tryd.underlying47 rfl sz9dn rfl) ?_
    refine L_v rfl rfl rfl (V_load1 0 rfl rfl rfl Tryd.underlying9 rfl (by rfl)) ?_
    refine L_call rfl rfl rfl rfl tx41dn (fun w1 hw => (rcreate_w b1 D H o.file hz.1 w1 (hw.memAt (List.Sublist.cons _ (List.Sublist.refl _))) hG hW (hf_sub hw (List.Sublist.cons _ (List.Sublist.refl _)) (fun x hx => ⟨x, by obtain rfl := List.mem_singleton.1 hx; exact List.mem_cons_self .., id, fun _ h => h⟩)) hk).mono ?_)
    rintro e w' ⟨H', rfl, hG', hU⟩
    have hn9 := hU.g.2.trans (fs := [rkF D H]) (n := w.heap.size) (fun x hx => .self hx) hw.fr.size
    refine ⟨_, _, _, rfl, OkW.updG (m1 := [(b0, row 47 (opC o))]) hw (fun x hx => by obtain rfl := List.mem_singleton.1 hx; exact List.mem_cons_self ..) hU, rfl, ?_⟩
    refine L_v rfl rfl rfl (V_assign rfl rfl) ?_
    refine L_nil ?_
    change J _ _ _ _
    refine J_ret ?_
    change Kret _ _ _ Exit.ret _
    refine ret1 rfl rfl (RV_t rfl) ?_
    exact fun w' h => RkP.fin (op_1 h1).1 (op_1 h1).2 hG' (UpdG.of h rfl (Pk.of_sub (List.Sublist.cons _ (List.Sublist.refl _))) (List.mem_append_right _ (List.mem_singleton.2 rfl)) hn9)
  ·
    first | (have h1 := of_decide_eq_true h1) | (have h1 := of_decide_eq_false h1) | skip
    refine J_seq ?_
    refine J_region ?_
    refine L_v rfl rfl rfl (V_eql rfl rfl rfl rfl) ?_
    refine L_v rfl rfl rfl (V_assign rfl rfl) ?_
    refine L_nil ?_
    change J _ _ _ _
    refine J_cond rfl (fun h2 => ?_) (fun h2 => ?_)
    ·
      first | (have h2 := of_decide_eq_true h2) | (have h2 := of_decide_eq_false h2) | skip
      refine J_seq ?_
      refine J_region ?_
      refine L_v rfl rfl rfl (V_move rfl rfl) ?_
      refine L_v rfl rfl rfl (V_fieldAddr rfl rfl Tryd.underlying47 rfl sz9dn rfl) ?_
      refine L_v rfl rfl rfl (V_load1 0 rfl rfl rfl Tryd.underlying9 rfl (by rfl)) ?_
      refine L_v rfl rfl rfl (V_fieldAddr rfl rfl Tryd.underlying47 rfl sz22dn rfl) ?_
      refine L_v rfl rfl rfl (V_load1 0 rfl rfl rfl Tryd.underlying22 rfl (by rfl)) ?_
      refine L_call rfl rfl rfl rfl tx42dn (fun w1 hw => (rappend_w b1 D H o.file o.ba o.bc o.bytes w1 (hw.memAt (List.Sublist.cons _ (List.Sublist.refl _))) hG hW (hf_sub hw (List.Sublist.cons _ (List.Sublist.refl _)) (fun x hx => by
          rcases List.mem_cons.1 hx with rfl | hx
          · exact ⟨_, List.mem_cons_self .., id, fun _ h => h⟩
          · obtain rfl := List.mem_singleton.1 hx
            exact ⟨opF o, List.mem_cons_of_mem _ (List.mem_cons_self ..), fun h => h.1, fun _ h => .inl h⟩)) hk).mono ?_)
      rintro e w' ⟨H', rfl, hG', hU⟩
      have hn9 := hU.g.2.trans (fs := [rkF D H]) (n := w.heap.size) (fun x hx => .self hx) hw.fr.size
      refine ⟨_, _, _, rfl, OkW.updG (m1 := [(b0, row 47 (opC o))]) hw (fun x hx => by obtain rfl := List.mem_singleton.1 hx; exact List.mem_cons_self ..) hU, rfl, ?_⟩
      refine L_v rfl rfl rfl (V_assign rfl rfl) ?_
      refine L_nil ?_
      change J _ _ _ _
      refine J_ret ?_
      change Kret _ _ _ Exit.ret _
      refine ret1 rfl rfl (RV_t rfl) ?_
      exact fun w' h => RkP.fin (op_2 h2).1 (op_2 h2).2 hG' (UpdG.of h rfl (Pk.of_sub (List.Sublist.cons _ (List.Sublist.refl _))) (List.mem_append_right _ (List.mem_singleton.2 rfl)) hn9)
    ·
      first | (have h2 := of_decide_eq_true h2) | (have h2 := of_decide_eq_false h2) | skip
      refine J_seq ?_
      refine J_region ?_
      refine L_v rfl rfl rfl (V_eql rfl rfl rfl rfl) ?_
      refine L_v rfl rfl rfl (V_assign rfl rfl) ?_
      refine L_nil ?_
      change J _ _ _ _
      refine J_cond rfl (fun h3 => ?_) (fun h3 => ?_)
      ·
        first | (have h3 := of_decide_eq_true h3) | (have h3 := of_decide_eq_false h3) | skip
        refine J_seq ?_
        refine J_region ?_
        refine L_v rfl rfl rfl (V_move rfl rfl) ?_
        refine L_v rfl rfl rfl (V_fieldAddr rfl rfl Tryd.underlying47 rfl sz9dn rfl) ?_
        refine L_v rfl rfl rfl (V_load1 0 rfl rfl rfl Tryd.underlying9 rfl (by rfl)) ?_
        refine L_call rfl rfl rfl rfl tx43dn (fun w1 hw => (rsync_w b1 D H o.file w1 (hw.memAt (List.Sublist.cons _ (List.Sublist.refl _))) hG hW (hf_sub hw (List.Sublist.cons _ (List.Sublist.refl _)) (fun x hx => ⟨x, by obtain rfl := List.mem_singleton.1 hx; exact List.mem_cons_self .., id, fun _ h => h⟩)) hk).mono ?_)
        rintro e w' ⟨H', rfl, hG', hU⟩
        have hn9 := hU.g.2.trans (fs := [rkF D H]) (n := w.heap.size) (fun x hx => .self hx) hw.fr.size
        refine ⟨_, _, _, rfl, OkW.updG (m1 := [(b0, row 47 (opC o))]) hw (fun x hx => by obtain rfl := List.mem_singleton.1 hx; exact List.mem_cons_self ..) hU, rfl, ?_⟩
        refine L_v rfl rfl rfl (V_assign rfl rfl) ?_
        refine L_nil ?_
        change J _ _ _ _
        refine J_ret ?_
        change Kret _ _ _ Exit.ret _
        refine ret1 rfl rfl (RV_t rfl) ?_
        exact fun w' h => RkP.fin (op_3 h3).1 (op_3 h3).2 hG' (UpdG.of h rfl (Pk.of_sub (List.Sublist.cons _ (List.Sublist.refl _))) (List.mem_append_right _ (List.mem_singleton.2 rfl)) hn9)
      ·
        first | (have h3 := of_decide_eq_true h3) | (have h3 := of_decide_eq_false h3) | skip
        refine J_seq ?_
        refine J_region ?_
        refine L_v rfl rfl rfl (V_eql rfl rfl rfl rfl) ?_
        refine L_v rfl rfl rfl (V_assign rfl rfl) ?_
        refine L_nil ?_
        change J _ _ _ _
        refine J_cond rfl (fun h4 => ?_) (fun h4 => ?_)
        ·
          first | (have h4 := of_decide_eq_true h4) | (have h4 := of_decide_eq_false h4) | skip
          refine J_seq ?_
          refine J_region ?_
          refine L_v rfl rfl rfl (V_move rfl rfl) ?_
          refine L_v rfl rfl rfl (V_fieldAddr rfl rfl Tryd.underlying47 rfl sz9dn rfl) ?_
          refine L_v rfl rfl rfl (V_load1 0 rfl rfl rfl Tryd.underlying9 rfl (by rfl)) ?_
          refine L_v rfl rfl rfl (V_fieldAddr rfl rfl Tryd.underlying47 rfl sz9dn rfl) ?_
          refine L_v rfl rfl rfl (V_load1 0 rfl rfl rfl Tryd.underlying9 rfl (by rfl)) ?_
          refine L_call rfl rfl rfl rfl tx44dn (fun w1 hw => (rrename_w b1 D H o.file o.to hz.2 w1 (hw.memAt (List.Sublist.cons _ (List.Sublist.refl _))) hG hW (hf_sub hw (List.Sublist.cons _ (List.Sublist.refl _)) (fun x hx => ⟨x, by obtain rfl := List.mem_singleton.1 hx; exact List.mem_cons_self .., id, fun _ h => h⟩)) hk).mono ?_)
          rintro e w' ⟨H', rfl, hG', hU⟩
          have hn9 := hU.g.2.trans (fs := [rkF D H]) (n := w.heap.size) (fun x hx => .self hx) hw.fr.size
          refine ⟨_, _, _, rfl, OkW.updG (m1 := [(b0, row 47 (opC o))]) hw (fun x hx => by obtain rfl := List.mem_singleton.1 hx; exact List.mem_cons_self ..) hU, rfl, ?_⟩
          refine L_v rfl rfl rfl (V_assign rfl rfl) ?_
          refine L_nil ?_
          change J _ _ _ _
          refine J_ret ?_
          change Kret _ _ _ Exit.ret _
          refine ret1 rfl rfl (RV_t rfl) ?_
          exact fun w' h => RkP.fin (op_4 h4).1 (op_4 h4).2 hG' (UpdG.of h rfl (Pk.of_sub (List.Sublist.cons _ (List.Sublist.refl _))) (List.mem_append_right _ (List.mem_singleton.2 rfl)) hn9)
        ·
          first | (have h4 := of_decide_eq_true h4) | (have h4 := of_decide_eq_false h4) | skip
          refine J_seq ?_
          refine J_region ?_
          refine L_v rfl rfl rfl (V_eql rfl rfl rfl rfl) ?_
          refine L_v rfl rfl rfl (V_assign rfl rfl) ?_
          refine L_nil ?_
          change J _ _ _ _
          refine J_cond rfl (fun h5 => ?_) (fun h5 => ?_)
          ·
            first | (have h5 := of_decide_eq_true h5) | (have h5 := of_decide_eq_false h5) | skip
            refine J_seq ?_
            refine J_region ?_
            refine L_v rfl rfl rfl (V_move rfl rfl) ?_
            refine L_v rfl rfl rfl (V_fieldAddr rfl rfl Tryd.underlying47 rfl sz9dn rfl) ?_
            refine L_v rfl rfl rfl (V_load1 0 rfl rfl rfl Tryd.underlying9 rfl (by rfl)) ?_
            refine L_call rfl rfl rfl rfl tx45dn (fun w1 hw => (rremove_w b1 D H o.file w1 (hw.memAt (List.Sublist.cons _ (List.Sublist.refl _))) hG hW (hf_sub hw (List.Sublist.cons _ (List.Sublist.refl _)) (fun x hx => ⟨x, by obtain rfl := List.mem_singleton.1 hx; exact List.mem_cons_self .., id, fun _ h => h⟩)) hk).mono ?_)
            rintro e w' ⟨H', rfl, hG', hU⟩
            have hn9 := hU.g.2.trans (fs := [rkF D H]) (n := w.heap.size) (fun x hx => .self hx) hw.fr.size
            refine ⟨_, _, _, rfl, OkW.updG (m1 := [(b0, row 47 (opC o))]) hw (fun x hx => by obtain rfl := List.mem_singleton.1 hx; exact List.mem_cons_self ..) hU, rfl, ?_⟩
            refine L_v rfl rfl rfl (V_assign rfl rfl) ?_
            refine L_nil ?_
            change J _ _ _ _
            refine J_ret ?_
            change Kret _ _ _ Exit.ret _
            refine ret1 rfl rfl (RV_t rfl) ?_
            exact fun w' h => RkP.fin (op_5 h5).1 (op_5 h5).2 hG' (UpdG.of h rfl (Pk.of_sub (List.Sublist.cons _ (List.Sublist.refl _))) (List.mem_append_right _ (List.mem_singleton.2 rfl)) hn9)
          ·
            first | (have h5 := of_decide_eq_true h5) | (have h5 := of_decide_eq_false h5) | skip
            refine J_seq ?_
            refine J_region ?_
            refine L_v rfl rfl rfl (V_eql rfl rfl rfl rfl) ?_
            refine L_v rfl rfl rfl (V_assign rfl rfl) ?_
            refine L_nil ?_
            change J _ _ _ _
            refine J_cond rfl (fun h6 => ?_) (fun h6 => ?_)
            ·
              first | (have h6 := of_decide_eq_true h6) | (have h6 := of_decide_eq_false h6) | skip
              refine J_seq ?_
              refine J_region ?_
              refine L_v rfl rfl rfl (V_move rfl rfl) ?_
              refine L_call rfl rfl rfl rfl tx46dn (fun w1 hw => (rsyncNames_w b1 D H  w1 (hw.memAt (List.Sublist.cons _ (List.Sublist.refl _))) hG hW (hf_sub hw (List.Sublist.cons _ (List.Sublist.refl _)) (fun x hx => ⟨x, by obtain rfl := List.mem_singleton.1 hx; exact List.mem_cons_self .., id, fun _ h => h⟩)) hk).mono ?_)
              rintro e w' ⟨H', rfl, hG', hU⟩
              have hn9 := hU.g.2.trans (fs := [rkF D H]) (n := w.heap.size) (fun x hx => .self hx) hw.fr.size
              refine ⟨_, _, _, rfl, OkW.updG (m1 := [(b0, row 47 (opC o))]) hw (fun x hx => by obtain rfl := List.mem_singleton.1 hx; exact List.mem_cons_self ..) hU, rfl, ?_⟩
              refine L_v rfl rfl rfl (V_assign rfl rfl) ?_
              refine L_nil ?_
              change J _ _ _ _
              refine J_ret ?_
              change Kret _ _ _ Exit.ret _
              refine ret1 rfl rfl (RV_t rfl) ?_
              exact fun w' h => RkP.fin (op_6 h6).1 (op_6 h6).2 hG' (UpdG.of h rfl (Pk.of_sub (List.Sublist.cons _ (List.Sublist.refl _))) (List.mem_append_right _ (List.mem_singleton.2 rfl)) hn9)
            ·
              first | (have h6 := of_decide_eq_true h6) | (have h6 := of_decide_eq_false h6) | skip
              refine J_seq ?_
              refine J_region ?_
              refine L_v rfl rfl rfl (V_eql rfl rfl rfl rfl) ?_
              refine L_v rfl rfl rfl (V_assign rfl rfl) ?_
              refine L_nil ?_
              change J _ _ _ _
              refine J_cond rfl (fun h7 => ?_) (fun h7 => ?_)
              ·
                first | (have h7 := of_decide_eq_true h7) | (have h7 := of_decide_eq_false h7) | skip
                refine J_seq ?_
                refine J_region ?_
                refine L_v rfl rfl rfl (V_move rfl rfl) ?_
                refine L_v rfl rfl rfl (V_fieldAddr rfl rfl Tryd.underlying47 rfl sz3dn rfl) ?_
                refine L_v rfl rfl rfl (V_load1 0 rfl rfl rfl Tryd.underlying3 rfl (by rfl)) ?_
                refine L_call rfl rfl rfl rfl tx47dn (fun w1 hw => (rstop_w b1 D H o.n w1 (hw.memAt (List.Sublist.cons _ (List.Sublist.refl _))) hG hW (hf_sub hw (List.Sublist.cons _ (List.Sublist.refl _)) (fun x hx => ⟨x, by obtain rfl := List.mem_singleton.1 hx; exact List.mem_cons_self .., id, fun _ h => h⟩)) hk).mono ?_)
                rintro e w' ⟨H', rfl, hG', hU⟩
                have hn9 := hU.g.2.trans (fs := [rkF D H]) (n := w.heap.size) (fun x hx => .self hx) hw.fr.size
                refine ⟨_, _, _, rfl, OkW.updG (m1 := [(b0, row 47 (opC o))]) hw (fun x hx => by obtain rfl := List.mem_singleton.1 hx; exact List.mem_cons_self ..) hU, rfl, ?_⟩
                refine L_v rfl rfl rfl (V_assign rfl rfl) ?_
                refine L_nil ?_
                change J _ _ _ _
                refine J_ret ?_
                change Kret _ _ _ Exit.ret _
                refine ret1 rfl rfl (RV_t rfl) ?_
                exact fun w' h => RkP.fin (op_7 h7).1 (op_7 h7).2 hG' (UpdG.of h rfl (Pk.of_sub (List.Sublist.cons _ (List.Sublist.refl _))) (List.mem_append_right _ (List.mem_singleton.2 rfl)) hn9)
              ·
                first | (have h7 := of_decide_eq_true h7) | (have h7 := of_decide_eq_false h7) | skip
                refine J_seq ?_
                refine J_region ?_
                refine L_v rfl rfl rfl (V_eql rfl rfl rfl rfl) ?_
                refine L_v rfl rfl rfl (V_assign rfl rfl) ?_
                refine L_nil ?_
                change J _ _ _ _
                refine J_cond rfl (fun h8 => ?_) (fun h8 => ?_)
                ·
                  first | (have h8 := of_decide_eq_true h8) | (have h8 := of_decide_eq_false h8) | skip
                  refine J_region ?_
                  refine L_v rfl rfl rfl (V_move rfl rfl) ?_
                  refine L_v rfl rfl rfl (V_fieldAddr rfl rfl Tryd.underlying47 rfl sz3dn rfl) ?_
                  refine L_v rfl rfl rfl (V_load1 0 rfl rfl rfl Tryd.underlying3 rfl (by rfl)) ?_
                  refine L_v rfl rfl rfl (V_fieldAddr rfl rfl Tryd.underlying47 rfl sz23dn rfl) ?_
                  refine L_v rfl rfl rfl (V_load1 0 rfl rfl rfl Tryd.underlying23 rfl (by rfl)) ?_
                  refine L_v rfl rfl rfl (V_fieldAddr rfl rfl Tryd.underlying47 rfl sz5dn rfl) ?_
                  refine L_v rfl rfl rfl (V_load1 0 rfl rfl rfl Tryd.underlying5 rfl (by rfl)) ?_
                  refine L_call rfl rfl rfl rfl tx48dn (fun w1 hw => (rcrash_w b1 D H o.n o.ta o.tc o.tails o.noise w1 (hw.memAt (List.Sublist.cons _ (List.Sublist.refl _))) hG hW (hf_sub hw (List.Sublist.cons _ (List.Sublist.refl _)) (fun x hx => by
                      rcases List.mem_cons.1 hx with rfl | hx
                      · exact ⟨_, List.mem_cons_self .., id, fun _ h => h⟩
                      · obtain rfl := List.mem_singleton.1 hx
                        exact ⟨opF o, List.mem_cons_of_mem _ (List.mem_cons_self ..), fun h => h.2, fun _ h => .inr h⟩)) hk).mono ?_)
                  rintro e w' ⟨H', rfl, hG', hU⟩
                  have hn9 := hU.g.2.trans (fs := [rkF D H]) (n := w.heap.size) (fun x hx => .self hx) hw.fr.size
                  refine ⟨_, _, _, rfl, OkW.updG (m1 := [(b0, row 47 (opC o))]) hw (fun x hx => by obtain rfl := List.mem_singleton.1 hx; exact List.mem_cons_self ..) hU, rfl, ?_⟩
                  refine L_nil ?_
                  change J _ _ _ _
                  refine J_seq ?_
                  refine J_region ?_
                  refine L_v rfl rfl rfl (V_assign rfl rfl) ?_
                  refine L_nil ?_
                  change J _ _ _ _
                  refine J_ret ?_
                  change Kret _ _ _ Exit.ret _
                  refine ret1 rfl rfl (RV_t rfl) ?_
                  exact fun w' h => RkP.fin (op_8 h8).1 (op_8 h8).2 hG' (UpdG.of h rfl (Pk.of_sub (List.Sublist.cons _ (List.Sublist.refl _))) (List.mem_append_right _ (List.mem_singleton.2 rfl)) hn9)
                ·
                  first | (have h8 := of_decide_eq_true h8) | (have h8 := of_decide_eq_false h8) | skip
                  refine J_skip ?_
                  change J _ _ _ _
                  refine J_seq ?_
                  refine J_region ?_
                  refine L_v rfl rfl rfl (V_assign rfl rfl) ?_
                  refine L_nil ?_
                  change J _ _ _ _
                  refine J_ret ?_
                  change Kret _ _ _ Exit.ret _
                  refine ret1 rfl rfl (RV_t rfl) ?_
                  exact fun w' h => RkP.fin (op_9 h1 h2 h3 h4 h5 h6 h7 h8).1 (op_9 h1 h2 h3 h4 h5 h6 h7 h8).2 hG (UpdG.of h rfl (Pk.of_sub (List.Sublist.cons _ (List.Sublist.refl _))) (List.mem_cons_self ..) (.self (List.mem_singleton.2 rfl)))

end Go.Proofs.YtcbpgnjlbbjieaaDoor
