/- The law DiskNil: its walk. -/
import Derived.Test.YtcbpgnjlbbjieaaDoorD6
set_option linter.unusedVariables false
set_option linter.unusedSimpArgs false
set_option maxRecDepth 100000
namespace Go.Proofs.YtcbpgnjlbbjieaaDoor
open Go.Sx
theorem bsO (o : OpV) (w : World) : (Instr.buildSlice 40 1 [(0, .agg (opC o).toArray)].toArray).run Tryd.prog w = .ok (.slice (some ⟨w.heap.size, 0, none⟩) 1 1) (w.alloc (row 47 (opC o))) := by kernel_rfl
theorem ops_hF {cx : Cx} {m m' : Mem} {fs : List Fact} {w : World} (h : OkW cx m fs w) {a : Option Addr} {c : Nat} {l : List OpV} (hf0 : opsF a c l ∈ fs) {x : OpV} (hx : x ∈ l) (hm : List.Sublist m' m) : ∀ f ∈ [opF x], f.p w ∧ ∀ k, f.fp k → k < w.heap.size ∧ k ∉ m'.map (·.1) := by
  intro f hf
  obtain rfl := List.mem_singleton.1 hf
  have h9 := h.facts _ hf0
  have hx' : opF x ∈ l.map opF := List.mem_map.2 ⟨x, hx, rfl⟩
  exact ⟨h9.1.2 _ hx', fun k hk => ⟨(h9.2 k (.inr ⟨_, hx', hk⟩)).1, fun hkm => (h9.2 k (.inr ⟨_, hx', hk⟩)).2 ((hm.map _).subset hkm)⟩⟩
section
variable {D : Dk} (h : D.down = true)
theorem dn_c (h : D.down = true) (f : ByteArray) : createE D f = 90 ∧ createD D f = D := ⟨createE_1 h, createD_no (createE_1 h) (by decide)⟩
theorem dn_n (h : D.down = true) (f : ByteArray) : nameE D f = 90 := nameE_1 h
theorem dn_a (h : D.down = true) (f : ByteArray) (l : List Int) : appendE D f l = 90 ∧ appendD D f l = D := by
  have h1 : appendE D f l = 90 := (appendE_1 (by rw [nameE_1 h]; decide)).trans (nameE_1 h)
  exact ⟨h1, appendD_no h1 (by decide)⟩
theorem dn_s (h : D.down = true) (f : ByteArray) : syncD D f = D := syncD_no (by rw [nameE_1 h]; decide)
theorem dn_r (h : D.down = true) (f t : ByteArray) : renameE D f t = 90 ∧ renameD D f t = D := by
  have h1 : renameE D f t = 90 := (renameE_1 (by rw [nameE_1 h]; decide)).trans (nameE_1 h)
  exact ⟨h1, renameD_no h1 (by decide)⟩
theorem dn_d (h : D.down = true) (f : ByteArray) : removeD D f = D := removeD_no (by rw [nameE_1 h]; decide)
theorem dn_t (h : D.down = true) (n : Int) : stopE D n = 90 ∧ stopD D n = D := ⟨stopE_1 h, stopD_no (stopE_1 h) (by decide)⟩
theorem stop_down (D : Dk) : (stopD D 0).down = true := by
  cases hd : D.down with
  | true => rw [(dn_t hd 0).2]; exact hd
  | false =>
    have h0 : stopE D 0 = 0 := stopE_0 hd (by decide)
    unfold stopD
    rw [if_pos h0]
    rfl
end
theorem sz3wNil : (Tryd.prog.info? 3).map (·.size) = some 1 := by kernel_rfl
theorem sz5wNil : (Tryd.prog.info? 5).map (·.size) = some 1 := by kernel_rfl
theorem sz9wNil : (Tryd.prog.info? 9).map (·.size) = some 1 := by kernel_rfl
theorem sz22wNil : (Tryd.prog.info? 22).map (·.size) = some 1 := by kernel_rfl
theorem sz23wNil : (Tryd.prog.info? 23).map (·.size) = some 1 := by kernel_rfl
theorem sz47wNil : (Tryd.prog.info? 47).map (·.size) = some 7 := by kernel_rfl
theorem tx10wNil : Txt Tryd.prog 10 := txt_of Tryd.func10 rfl (by kernel_rfl)
theorem tx11wNil : Txt Tryd.prog 11 := txt_of Tryd.func11 rfl (by kernel_rfl)
theorem tx12wNil : Txt Tryd.prog 12 := txt_of Tryd.func12 rfl (by kernel_rfl)
theorem tx13wNil : Txt Tryd.prog 13 := txt_of Tryd.func13 rfl (by kernel_rfl)
theorem tx14wNil : Txt Tryd.prog 14 := txt_of Tryd.func14 rfl (by kernel_rfl)
theorem tx15wNil : Txt Tryd.prog 15 := txt_of Tryd.func15 rfl (by kernel_rfl)
theorem tx16wNil : Txt Tryd.prog 16 := txt_of Tryd.func16 rfl (by kernel_rfl)
theorem tx17wNil : Txt Tryd.prog 17 := txt_of Tryd.func17 rfl (by kernel_rfl)
theorem tx18wNil : Txt Tryd.prog 18 := txt_of Tryd.func18 rfl (by kernel_rfl)
theorem tx19wNil : Txt Tryd.prog 19 := txt_of Tryd.func19 rfl (by kernel_rfl)
theorem tx20wNil : Txt Tryd.prog 20 := txt_of Tryd.func20 rfl (by kernel_rfl)
theorem tx26wNil : Txt Tryd.prog 26 := txt_of Tryd.func26 rfl (by kernel_rfl)
theorem tx27wNil : Txt Tryd.prog 27 := txt_of Tryd.func27 rfl (by kernel_rfl)

set_option maxHeartbeats 4000000 in
theorem DiskNil_w (o : OpV) (w : World) (hF : FW w [opF o]) :
    Calls Tryd.prog 8 #[.agg (opC o).toArray] w fun e w' => e = .returned (.bool true) ∧ Fr [] w w' := by
  refine calls_of (args := [.agg (opC o).toArray]) ([]) ([]) ([opF o]) Tryd.func8 rfl rfl (okFW hF) ?_
  refine J_seq ?_
  refine J_region ?_
  refine L_box rfl rfl rfl rfl rfl (fun b0 => ?_)
  refine L_v rfl rfl rfl (V_assign rfl rfl) ?_
  refine L_nil ?_
  change J _ _ _ _
  refine J_seq ?_
  refine J_seq ?_
  refine J_region ?_
  refine L_v rfl rfl rfl (V_loadT 0 (vs := opC o) rfl rfl rfl Tryd.underlying47 rfl sz47wNil (by kernel_rfl) (by kernel_rfl)) ?_
  refine L_buildSlice (e := 47) (vs := [(0, .agg (opC o).toArray)]) (l := opC o) rfl rfl rfl rfl rfl (bsO o) (fun g9 => ?_)
  refine L_cons rfl (S_call rfl rfl rfl tx20wNil (fun w1 hw => (large_w (some ⟨g9, 0, none⟩) 1 [o] w1 (SlC.in (ks := opC o) (r := []) (fz := (0, 0)) hw (List.mem_append_right _ (List.mem_singleton.2 rfl)) rfl 1)).mono ?_))
  rintro e w' ⟨bl, rfl, hfr, hlg⟩
  refine ⟨_, _, _, rfl, hw.fr0 hfr, rfl, ?_⟩
  refine L_nil ?_
  change J _ _ _ _
  refine J_cond rfl (fun h1 => ?_) (fun h1 => ?_)
  ·
    first | (have h1 := of_decide_eq_true h1) | (have h1 := of_decide_eq_false h1) | skip
    refine J_seq ?_
    refine J_region ?_
    refine L_v rfl rfl rfl (V_assign rfl rfl) ?_
    refine L_nil ?_
    change J _ _ _ _
    refine J_ret ?_
    change Kret _ _ _ Exit.ret _
    refine ret1 rfl rfl (RV_t rfl) ?_
    exact fun w' h => ⟨rfl, h.fr⟩
  ·
    first | (have h1 := of_decide_eq_true h1) | (have h1 := of_decide_eq_false h1) | skip
    refine J_skip ?_
    change J _ _ _ _
    refine J_seq ?_
    refine J_region ?_
    refine L_v rfl rfl rfl (V_assign rfl rfl) ?_
    refine L_nil ?_
    change J _ _ _ _
    refine J_seq ?_
    refine J_region ?_
    refine L_v rfl rfl rfl (V_move rfl rfl) ?_
    refine L_v rfl rfl rfl (V_fieldAddr rfl rfl Tryd.underlying47 rfl sz9wNil rfl) ?_
    refine L_v rfl rfl rfl (V_load1 0 rfl rfl rfl Tryd.underlying9 rfl (by rfl)) ?_
    refine L_callV rfl rfl rfl rfl rfl rfl tx16wNil (fun w1 hw => read_0 o.file w1) ?_
    refine L_v rfl rfl rfl (V_move rfl rfl) ?_
    refine L_v rfl rfl rfl (V_extract rfl rfl rfl) ?_
    refine L_v rfl rfl rfl (V_extract rfl rfl rfl) ?_
    refine L_v rfl rfl rfl (V_assign rfl rfl) ?_
    refine L_v rfl rfl rfl (V_assign rfl rfl) ?_
    refine L_nil ?_
    change J _ _ _ _
    refine J_seq ?_
    refine J_region ?_
    refine L_v rfl rfl rfl (V_move rfl rfl) ?_
    refine L_v rfl rfl rfl (V_fieldAddr rfl rfl Tryd.underlying47 rfl sz9wNil rfl) ?_
    refine L_v rfl rfl rfl (V_load1 0 rfl rfl rfl Tryd.underlying9 rfl (by rfl)) ?_
    refine L_callV rfl rfl rfl rfl rfl rfl tx10wNil (fun w1 hw => create_0 o.file w1) ?_
    refine L_v rfl rfl rfl (V_eql rfl rfl rfl rfl) ?_
    refine L_v rfl rfl rfl (V_move rfl rfl) ?_
    apply L_and 7 23 31
    · rfl
    · rfl
    · rfl
    · rfl
    · rfl
    · rfl
    · rfl
    · kernel_rfl
    · intro hb2 _ _ hk2
      refine L_wv rfl rfl rfl rfl rfl rfl (V_move rfl rfl) ?_
      refine L_wv rfl rfl rfl rfl rfl rfl (V_fieldAddr rfl rfl Tryd.underlying47 rfl sz9wNil rfl) ?_
      refine L_wv rfl rfl rfl rfl rfl rfl (V_load1 0 rfl rfl rfl Tryd.underlying9 rfl (by rfl)) ?_
      refine L_wv rfl rfl rfl rfl rfl rfl (V_fieldAddr rfl rfl Tryd.underlying47 rfl sz22wNil rfl) ?_
      refine L_wv rfl rfl rfl rfl rfl rfl (V_load1 0 rfl rfl rfl Tryd.underlying22 rfl (by rfl)) ?_
      refine L_wcallV rfl rfl rfl rfl rfl rfl rfl rfl rfl tx11wNil (fun w1 hw => append_0 o.file _ w1) ?_
      refine L_wv rfl rfl rfl rfl rfl rfl (V_eql rfl rfl rfl rfl) ?_
      exact hk2 _ ⟨rfl, (by first | simp only [St.put] | rfl), (by first | simp only [St.put] | rfl), (by first | simp only [St.put] | rfl), ext_cut 7 (by kernel_rfl) (by kernel_rfl)⟩
    refine L_v rfl rfl rfl (V_move rfl rfl) ?_
    apply L_and 5 32 38
    · rfl
    · rfl
    · rfl
    · rfl
    · rfl
    · rfl
    · rfl
    · kernel_rfl
    · intro hb3 _ _ hk3
      refine L_wv rfl rfl rfl rfl rfl rfl (V_move rfl rfl) ?_
      refine L_wv rfl rfl rfl rfl rfl rfl (V_fieldAddr rfl rfl Tryd.underlying47 rfl sz9wNil rfl) ?_
      refine L_wv rfl rfl rfl rfl rfl rfl (V_load1 0 rfl rfl rfl Tryd.underlying9 rfl (by rfl)) ?_
      refine L_wcallV rfl rfl rfl rfl rfl rfl rfl rfl rfl tx12wNil (fun w1 hw => sync_0 o.file w1) ?_
      refine L_wv rfl rfl rfl rfl rfl rfl (V_eql rfl rfl rfl rfl) ?_
      exact hk3 _ ⟨rfl, (by first | simp only [St.put] | rfl), (by first | simp only [St.put] | rfl), (by first | simp only [St.put] | rfl), ext_cut 5 (by kernel_rfl) (by kernel_rfl)⟩
    refine L_v rfl rfl rfl (V_move rfl rfl) ?_
    apply L_and 7 39 47
    · rfl
    · rfl
    · rfl
    · rfl
    · rfl
    · rfl
    · rfl
    · kernel_rfl
    · intro hb4 _ _ hk4
      refine L_wv rfl rfl rfl rfl rfl rfl (V_move rfl rfl) ?_
      refine L_wv rfl rfl rfl rfl rfl rfl (V_fieldAddr rfl rfl Tryd.underlying47 rfl sz9wNil rfl) ?_
      refine L_wv rfl rfl rfl rfl rfl rfl (V_load1 0 rfl rfl rfl Tryd.underlying9 rfl (by rfl)) ?_
      refine L_wv rfl rfl rfl rfl rfl rfl (V_fieldAddr rfl rfl Tryd.underlying47 rfl sz9wNil rfl) ?_
      refine L_wv rfl rfl rfl rfl rfl rfl (V_load1 0 rfl rfl rfl Tryd.underlying9 rfl (by rfl)) ?_
      refine L_wcallV rfl rfl rfl rfl rfl rfl rfl rfl rfl tx14wNil (fun w1 hw => rename_0 o.file o.to w1) ?_
      refine L_wv rfl rfl rfl rfl rfl rfl (V_eql rfl rfl rfl rfl) ?_
      exact hk4 _ ⟨rfl, (by first | simp only [St.put] | rfl), (by first | simp only [St.put] | rfl), (by first | simp only [St.put] | rfl), ext_cut 7 (by kernel_rfl) (by kernel_rfl)⟩
    refine L_v rfl rfl rfl (V_assign rfl rfl) ?_
    refine L_nil ?_
    change J _ _ _ _
    refine J_seq ?_
    refine J_region ?_
    refine L_v rfl rfl rfl (V_move rfl rfl) ?_
    refine L_v rfl rfl rfl (V_fieldAddr rfl rfl Tryd.underlying47 rfl sz9wNil rfl) ?_
    refine L_v rfl rfl rfl (V_load1 0 rfl rfl rfl Tryd.underlying9 rfl (by rfl)) ?_
    refine L_callV rfl rfl rfl rfl rfl rfl tx19wNil (fun w1 hw => remove_0 o.file w1) ?_
    refine L_v rfl rfl rfl (V_eql rfl rfl rfl rfl) ?_
    refine L_v rfl rfl rfl (V_move rfl rfl) ?_
    apply L_and 3 53 57
    · rfl
    · rfl
    · rfl
    · rfl
    · rfl
    · rfl
    · rfl
    · kernel_rfl
    · intro hb5 _ _ hk5
      refine L_wv rfl rfl rfl rfl rfl rfl (V_move rfl rfl) ?_
      refine L_wcallV rfl rfl rfl rfl rfl rfl rfl rfl rfl tx13wNil (fun w1 hw => syncNames_0 w1) ?_
      refine L_wv rfl rfl rfl rfl rfl rfl (V_eql rfl rfl rfl rfl) ?_
      exact hk5 _ ⟨rfl, (by first | simp only [St.put] | rfl), (by first | simp only [St.put] | rfl), (by first | simp only [St.put] | rfl), ext_cut 3 (by kernel_rfl) (by kernel_rfl)⟩
    refine L_v rfl rfl rfl (V_move rfl rfl) ?_
    apply L_and 5 58 64
    · rfl
    · rfl
    · rfl
    · rfl
    · rfl
    · rfl
    · rfl
    · kernel_rfl
    · intro hb6 _ _ hk6
      refine L_wv rfl rfl rfl rfl rfl rfl (V_move rfl rfl) ?_
      refine L_wv rfl rfl rfl rfl rfl rfl (V_fieldAddr rfl rfl Tryd.underlying47 rfl sz3wNil rfl) ?_
      refine L_wv rfl rfl rfl rfl rfl rfl (V_load1 0 rfl rfl rfl Tryd.underlying3 rfl (by rfl)) ?_
      refine L_wcallV rfl rfl rfl rfl rfl rfl rfl rfl rfl tx27wNil (fun w1 hw => stop_0 o.n w1) ?_
      refine L_wv rfl rfl rfl rfl rfl rfl (V_eql rfl rfl rfl rfl) ?_
      exact hk6 _ ⟨rfl, (by first | simp only [St.put] | rfl), (by first | simp only [St.put] | rfl), (by first | simp only [St.put] | rfl), ext_cut 5 (by kernel_rfl) (by kernel_rfl)⟩
    refine L_v rfl rfl rfl (V_move rfl rfl) ?_
    apply L_and 9 65 75
    · rfl
    · rfl
    · rfl
    · rfl
    · rfl
    · rfl
    · rfl
    · kernel_rfl
    · intro hb7 _ _ hk7
      refine L_wv rfl rfl rfl rfl rfl rfl (V_move rfl rfl) ?_
      refine L_wv rfl rfl rfl rfl rfl rfl (V_fieldAddr rfl rfl Tryd.underlying47 rfl sz3wNil rfl) ?_
      refine L_wv rfl rfl rfl rfl rfl rfl (V_load1 0 rfl rfl rfl Tryd.underlying3 rfl (by rfl)) ?_
      refine L_wv rfl rfl rfl rfl rfl rfl (V_fieldAddr rfl rfl Tryd.underlying47 rfl sz23wNil rfl) ?_
      refine L_wv rfl rfl rfl rfl rfl rfl (V_load1 0 rfl rfl rfl Tryd.underlying23 rfl (by rfl)) ?_
      refine L_wv rfl rfl rfl rfl rfl rfl (V_fieldAddr rfl rfl Tryd.underlying47 rfl sz5wNil rfl) ?_
      refine L_wv rfl rfl rfl rfl rfl rfl (V_load1 0 rfl rfl rfl Tryd.underlying5 rfl (by rfl)) ?_
      refine L_wcallV rfl rfl rfl rfl rfl rfl rfl rfl rfl tx15wNil (fun w1 hw => crash_0 o.n _ o.noise w1) ?_
      refine L_wv rfl rfl rfl rfl rfl rfl (V_eql rfl rfl rfl rfl) ?_
      exact hk7 _ ⟨rfl, (by first | simp only [St.put] | rfl), (by first | simp only [St.put] | rfl), (by first | simp only [St.put] | rfl), ext_cut 9 (by kernel_rfl) (by kernel_rfl)⟩
    refine L_v rfl rfl rfl (V_assign rfl rfl) ?_
    refine L_nil ?_
    change J _ _ _ _
    refine J_seq ?_
    refine J_region ?_
    refine L_callV rfl rfl rfl rfl rfl rfl tx17wNil (fun w1 hw => awake_w w1) ?_
    refine L_v rfl rfl rfl (V_move rfl rfl) ?_
    apply L_and 3 77 81
    · rfl
    · rfl
    · rfl
    · rfl
    · rfl
    · rfl
    · rfl
    · kernel_rfl
    · intro hb8 _ _ hk8
      refine L_wv rfl rfl rfl rfl rfl rfl (V_move rfl rfl) ?_
      refine L_wv rfl rfl rfl rfl rfl rfl (V_len rfl rfl Tryd.underlying22 rfl) ?_
      refine L_wv rfl rfl rfl rfl rfl rfl (V_eql rfl rfl rfl rfl) ?_
      exact hk8 _ ⟨rfl, (by first | simp only [St.put] | rfl), (by first | simp only [St.put] | rfl), (by first | simp only [St.put] | rfl), ext_cut 3 (by kernel_rfl) (by kernel_rfl)⟩
    refine L_v rfl rfl rfl (V_move rfl rfl) ?_
    apply L_and 2 82 85
    · rfl
    · rfl
    · rfl
    · rfl
    · rfl
    · rfl
    · rfl
    · kernel_rfl
    · intro hb9 _ _ hk9
      refine L_wv rfl rfl rfl rfl rfl rfl (V_move rfl rfl) ?_
      refine L_wv rfl rfl rfl rfl rfl rfl (V_eql rfl rfl rfl rfl) ?_
      exact hk9 _ ⟨rfl, (by first | simp only [St.put] | rfl), (by first | simp only [St.put] | rfl), (by first | simp only [St.put] | rfl), ext_cut 2 (by kernel_rfl) (by kernel_rfl)⟩
    refine L_v rfl rfl rfl (V_move rfl rfl) ?_
    apply L_and 4 86 91
    · rfl
    · rfl
    · rfl
    · rfl
    · rfl
    · rfl
    · rfl
    · kernel_rfl
    · intro hb10 _ _ hk10
      refine L_wv rfl rfl rfl rfl rfl rfl (V_move rfl rfl) ?_
      refine L_wcallV rfl rfl rfl rfl rfl rfl rfl rfl rfl tx18wNil (fun w1 hw => names_0 w1) ?_
      refine L_wv rfl rfl rfl rfl rfl rfl (V_len rfl rfl Tryd.underlying36 rfl) ?_
      refine L_wv rfl rfl rfl rfl rfl rfl (V_eql rfl rfl rfl rfl) ?_
      exact hk10 _ ⟨rfl, (by first | simp only [St.put] | rfl), (by first | simp only [St.put] | rfl), (by first | simp only [St.put] | rfl), ext_cut 4 (by kernel_rfl) (by kernel_rfl)⟩
    refine L_v rfl rfl rfl (V_move rfl rfl) ?_
    apply L_and 3 92 96
    · rfl
    · rfl
    · rfl
    · rfl
    · rfl
    · rfl
    · rfl
    · kernel_rfl
    · intro hb11 _ _ hk11
      refine L_wv rfl rfl rfl rfl rfl rfl (V_move rfl rfl) ?_
      refine L_wcallV rfl rfl rfl rfl rfl rfl rfl rfl rfl tx26wNil (fun w1 hw => down_0 w1) ?_
      refine L_wv rfl rfl rfl rfl rfl rfl (V_not rfl rfl rfl) ?_
      exact hk11 _ ⟨rfl, (by first | simp only [St.put] | rfl), (by first | simp only [St.put] | rfl), (by first | simp only [St.put] | rfl), ext_cut 3 (by kernel_rfl) (by kernel_rfl)⟩
    refine L_v rfl rfl rfl (V_move rfl rfl) ?_
    apply L_and 1 97 99
    · rfl
    · rfl
    · rfl
    · rfl
    · rfl
    · rfl
    · rfl
    · kernel_rfl
    · intro hb12 _ _ hk12
      refine L_wv rfl rfl rfl rfl rfl rfl (V_move rfl rfl) ?_
      exact hk12 _ ⟨rfl, (by first | simp only [St.put] | rfl), (by first | simp only [St.put] | rfl), (by first | simp only [St.put] | rfl), ext_cut 1 (by kernel_rfl) (by kernel_rfl)⟩
    refine L_v rfl rfl rfl (V_move rfl rfl) ?_
    apply L_and 1 100 102
    · rfl
    · rfl
    · rfl
    · rfl
    · rfl
    · rfl
    · rfl
    · kernel_rfl
    · intro hb13 _ _ hk13
      refine L_wv rfl rfl rfl rfl rfl rfl (V_move rfl rfl) ?_
      exact hk13 _ ⟨rfl, (by first | simp only [St.put] | rfl), (by first | simp only [St.put] | rfl), (by first | simp only [St.put] | rfl), ext_cut 1 (by kernel_rfl) (by kernel_rfl)⟩
    refine L_v rfl rfl rfl (V_assign rfl rfl) ?_
    refine L_nil ?_
    change J _ _ _ _
    refine J_ret ?_
    change Kret _ _ _ Exit.ret _
    refine ret1 rfl rfl (RV_t rfl) ?_
    exact fun w' h => ⟨congrArg (fun b => Ending.returned (Value.bool b)) (by kernel_rfl), h.fr⟩

end Go.Proofs.YtcbpgnjlbbjieaaDoor
