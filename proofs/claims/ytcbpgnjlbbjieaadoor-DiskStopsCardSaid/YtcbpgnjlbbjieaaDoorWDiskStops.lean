/- The law DiskStops: its walk. -/
import Derived.Test.YtcbpgnjlbbjieaaDoorD6
set_option linter.unusedVariables false
set_option linter.unusedSimpArgs false
set_option maxRecDepth 100000
namespace Go.Proofs.YtcbpgnjlbbjieaaDoor
open Go.Sx
theorem bsO (o : OpV) (w : World) : (Instr.buildSlice 40 1 [(0, .agg (opC o).toArray)].toArray).run Tryd.prog w = .ok (.slice (some ⟨w.heap.size, 0, none⟩) 1 1) (w.alloc (row 47 (opC o))) := by kernel_rfl
theorem ops_hF {cx : Cx} {m m' : Mem} {fs : List Fact} {w : World} (h : OkW cx m fs w) {a : Option Addr} {c : Nat} {l : List OpV} (hf0 : opsF a c l ∈ fs) {x : OpV} (hx : x ∈ l) (hm : List.Sublist m' m) : ∀ f ∈ [opF x], f.p w ∧ ∀ k, f.fp k → k < w.heap.size ∧ k ∉ m'.map (·.1) := by
  intro f hf
  obtain rfl := List.mem_singleton.1 hf
  have h9 := h.facts _ hf0
  have hx' : opF x ∈ l.map opF := List.mem_map.2 ⟨x, hx, rfl⟩
  exact ⟨h9.1.2 _ hx', fun k hk => ⟨(h9.2 k (.inr ⟨_, hx', hk⟩)).1, fun hkm => (h9.2 k (.inr ⟨_, hx', hk⟩)).2 ((hm.map _).subset hkm)⟩⟩
section
variable {D : Dk} (h : D.down = true)
theorem dn_c (h : D.down = true) (f : ByteArray) : createE D f = 90 ∧ createD D f = D := ⟨createE_1 h, createD_no (createE_1 h) (by decide)⟩
theorem dn_n (h : D.down = true) (f : ByteArray) : nameE D f = 90 := nameE_1 h
theorem dn_a (h : D.down = true) (f : ByteArray) (l : List Int) : appendE D f l = 90 ∧ appendD D f l = D := by
  have h1 : appendE D f l = 90 := (appendE_1 (by rw [nameE_1 h]; decide)).trans (nameE_1 h)
  exact ⟨h1, appendD_no h1 (by decide)⟩
theorem dn_s (h : D.down = true) (f : ByteArray) : syncD D f = D := syncD_no (by rw [nameE_1 h]; decide)
theorem dn_r (h : D.down = true) (f t : ByteArray) : renameE D f t = 90 ∧ renameD D f t = D := by
  have h1 : renameE D f t = 90 := (renameE_1 (by rw [nameE_1 h]; decide)).trans (nameE_1 h)
  exact ⟨h1, renameD_no h1 (by decide)⟩
theorem dn_d (h : D.down = true) (f : ByteArray) : removeD D f = D := removeD_no (by rw [nameE_1 h]; decide)
theorem dn_t (h : D.down = true) (n : Int) : stopE D n = 90 ∧ stopD D n = D := ⟨stopE_1 h, stopD_no (stopE_1 h) (by decide)⟩
theorem stop_down (D : Dk) : (stopD D 0).down = true := by
  cases hd : D.down with
  | true => rw [(dn_t hd 0).2]; exact hd
  | false =>
    have h0 : stopE D 0 = 0 := stopE_0 hd (by decide)
    unfold stopD
    rw [if_pos h0]
    rfl
end
theorem sz3wSto : (Tryd.prog.info? 3).map (·.size) = some 1 := by kernel_rfl
theorem sz9wSto : (Tryd.prog.info? 9).map (·.size) = some 1 := by kernel_rfl
theorem sz22wSto : (Tryd.prog.info? 22).map (·.size) = some 1 := by kernel_rfl
theorem sz47wSto : (Tryd.prog.info? 47).map (·.size) = some 7 := by kernel_rfl
theorem tx9wSto : Txt Tryd.prog 9 := txt_of Tryd.func9 rfl (by kernel_rfl)
theorem tx10wSto : Txt Tryd.prog 10 := txt_of Tryd.func10 rfl (by kernel_rfl)
theorem tx11wSto : Txt Tryd.prog 11 := txt_of Tryd.func11 rfl (by kernel_rfl)
theorem tx12wSto : Txt Tryd.prog 12 := txt_of Tryd.func12 rfl (by kernel_rfl)
theorem tx13wSto : Txt Tryd.prog 13 := txt_of Tryd.func13 rfl (by kernel_rfl)
theorem tx14wSto : Txt Tryd.prog 14 := txt_of Tryd.func14 rfl (by kernel_rfl)
theorem tx17wSto : Txt Tryd.prog 17 := txt_of Tryd.func17 rfl (by kernel_rfl)
theorem tx18wSto : Txt Tryd.prog 18 := txt_of Tryd.func18 rfl (by kernel_rfl)
theorem tx19wSto : Txt Tryd.prog 19 := txt_of Tryd.func19 rfl (by kernel_rfl)
theorem tx20wSto : Txt Tryd.prog 20 := txt_of Tryd.func20 rfl (by kernel_rfl)
theorem tx22wSto : Txt Tryd.prog 22 := txt_of Tryd.func22 rfl (by kernel_rfl)
theorem tx26wSto : Txt Tryd.prog 26 := txt_of Tryd.func26 rfl (by kernel_rfl)
theorem tx27wSto : Txt Tryd.prog 27 := txt_of Tryd.func27 rfl (by kernel_rfl)
theorem tx28wSto : Txt Tryd.prog 28 := txt_of Tryd.func28 rfl (by kernel_rfl)

set_option maxHeartbeats 4000000 in
theorem DiskStops_w (a0 : Option Addr) (c0 : Nat) (l : List OpV) (o : OpV) (w : World) (hF : FW w [opsF a0 c0 l, opF o]) :
    Calls Tryd.prog 7 #[.slice a0 l.length c0, .agg (opC o).toArray] w fun e w' => e = .returned (.bool true) ∧ Fr [] w w' := by
  have hsl := (hF _ (List.mem_cons_self ..)).l.1
  refine calls_of (args := [.slice a0 l.length c0, .agg (opC o).toArray]) ([]) ([]) ([opsF a0 c0 l, opF o]) Tryd.func7 rfl rfl (okFW hF) ?_
  refine J_seq ?_
  refine J_region ?_
  refine L_box rfl rfl rfl rfl rfl (fun b0 => ?_)
  refine L_v rfl rfl rfl (V_assign rfl rfl) ?_
  refine L_nil ?_
  change J _ _ _ _
  refine J_seq ?_
  refine J_seq ?_
  refine J_region ?_
  refine L_v rfl rfl rfl (V_move rfl rfl) ?_
  refine L_cons rfl (S_call rfl rfl rfl tx20wSto (fun w1 hw => (large_w a0 c0 l w1 (hw.fa 0 rfl).l.1).mono ?_))
  rintro e w' ⟨bl, rfl, hfr, hlg⟩
  refine ⟨_, _, _, rfl, hw.fr0 hfr, rfl, ?_⟩
  refine L_v rfl rfl rfl (V_move rfl rfl) ?_
  refine L_split 13 rfl (fun h1 => ?_) (fun h1 => ?_)
  ·
    first | (have h1 := of_decide_eq_true h1) | (have h1 := of_decide_eq_false h1) | skip
    refine L_skip rfl rfl rfl rfl rfl rfl rfl ?_
    refine L_skip rfl rfl rfl rfl rfl rfl rfl ?_
    refine L_skip rfl rfl rfl rfl rfl rfl rfl ?_
    first | refine L_v rfl rfl rfl (V_pickT rfl rfl rfl) ?_ | refine L_v rfl rfl rfl (V_pickF rfl rfl rfl) ?_
    refine L_nil ?_
    change J _ _ _ _
    refine J_true rfl ?_
    refine J_seq ?_
    refine J_region ?_
    refine L_v rfl rfl rfl (V_assign rfl rfl) ?_
    refine L_nil ?_
    change J _ _ _ _
    refine J_ret ?_
    change Kret _ _ _ Exit.ret _
    refine ret1 rfl rfl (RV_t rfl) ?_
    exact fun w' h => ⟨rfl, h.fr⟩
  ·
    first | (have h1 := of_decide_eq_true h1) | (have h1 := of_decide_eq_false h1) | skip
    refine L_wv rfl rfl rfl rfl rfl rfl (V_loadT 0 (vs := opC o) rfl rfl rfl Tryd.underlying47 rfl sz47wSto (by kernel_rfl) (by kernel_rfl)) ?_
    refine L_wS rfl rfl rfl rfl (S_buildSlice (e := 47) (vs := [(0, .agg (opC o).toArray)]) (l := opC o) rfl rfl rfl rfl (bsO o) (fun g9 => ?_))
    refine L_wS rfl rfl rfl rfl (S_call rfl rfl rfl tx20wSto (fun w1 hw => (large_w (some ⟨g9, 0, none⟩) 1 [o] w1 (SlC.in (ks := opC o) (r := []) (fz := (0, 0)) hw (List.mem_append_right _ (List.mem_singleton.2 rfl)) rfl 1)).mono ?_))
    rintro e w' ⟨bl2, rfl, hfr, hlg2⟩
    refine ⟨_, _, _, rfl, hw.fr0 hfr, rfl, ?_⟩
    first | refine L_v rfl rfl rfl (V_pickT rfl rfl rfl) ?_ | refine L_v rfl rfl rfl (V_pickF rfl rfl rfl) ?_
    refine L_nil ?_
    change J _ _ _ _
    refine J_cond rfl (fun h2 => ?_) (fun h2 => ?_)
    ·
      first | (have h2 := of_decide_eq_true h2) | (have h2 := of_decide_eq_false h2) | skip
      refine J_seq ?_
      refine J_region ?_
      refine L_v rfl rfl rfl (V_assign rfl rfl) ?_
      refine L_nil ?_
      change J _ _ _ _
      refine J_ret ?_
      change Kret _ _ _ Exit.ret _
      refine ret1 rfl rfl (RV_t rfl) ?_
      exact fun w' h => ⟨rfl, h.fr⟩
    ·
      first | (have h2 := of_decide_eq_true h2) | (have h2 := of_decide_eq_false h2) | skip
      obtain ⟨hl2, hlb⟩ := hlg h1
      refine J_skip ?_
      change J _ _ _ _
      refine J_seq ?_
      refine J_region ?_
      refine L_call rfl rfl rfl rfl tx9wSto (fun w1 hw => (new_w 4194304 w1).mono ?_)
      rintro e w' (⟨h9, _⟩ | ⟨_, bd, H0, rfl, hG0, hU0⟩)
      · exact absurd (by decide) h9
      have hG0 : Good (newD 4194304) H0 := hG0
      have hU0 : Upd _ _ _ (dkM bd (newD 4194304) H0) [] := hU0
      refine ⟨_, _, _, rfl, OkW.upd (m1 := [(b0, row 47 (opC o)), (g9, row 47 (opC o))]) hw hU0, rfl, ?_⟩
      refine L_pk ((b0, row 47 (opC o)) :: dkM bd (newD 4194304) H0) (Pk.of_sub (List.Sublist.cons_cons _ (List.Sublist.cons _ (List.Sublist.refl _)))) ?_
      refine L_v rfl rfl rfl (V_move rfl rfl) ?_
      refine L_v rfl rfl rfl (V_extract rfl rfl rfl) ?_
      refine L_v rfl rfl rfl (V_extract rfl rfl rfl) ?_
      refine L_v rfl rfl rfl (V_assign rfl rfl) ?_
      refine L_v rfl rfl rfl (V_assign rfl rfl) ?_
      refine L_nil ?_
      change J _ _ _ _
      refine J_seq ?_
      refine J_seq ?_
      refine J_region ?_
      refine L_v rfl rfl rfl (V_move rfl rfl) ?_
      refine L_v rfl rfl rfl (V_eqP rfl rfl rfl Tryd.underlying24 rfl) ?_
      refine L_v rfl rfl rfl (V_move rfl rfl) ?_
      refine L_wv rfl rfl rfl rfl rfl rfl (V_move rfl rfl) ?_
      refine L_wv rfl rfl rfl rfl rfl rfl (V_neq rfl rfl rfl rfl) ?_
      first | refine L_v rfl rfl rfl (V_pickT rfl rfl rfl) ?_ | refine L_v rfl rfl rfl (V_pickF rfl rfl rfl) ?_
      refine L_nil ?_
      change J _ _ _ _
      refine J_false rfl ?_
      refine J_skip ?_
      change J _ _ _ _
      refine J_seq ?_
      refine J_seq ?_
      refine J_region ?_
      refine L_v rfl rfl rfl (V_assign rfl rfl) ?_
      refine L_nil ?_
      change J _ _ _ _
      refine J_block ?_
      refine J_loop (X := Nat × Dk × DkH) (fun x => { env := [(0, .slice a0 l.length c0), (3, .pointer (some ⟨b0, 0, none⟩)), (5, .pointer (some ⟨bd, 0, none⟩)), (7, .int .i64 (x.1 : Int))], mem := (b0, row 47 (opC o)) :: dkM bd x.2.1 x.2.2, facts := [opsF a0 c0 l, opF o] }) (fun x => x.1 ≤ l.length ∧ Good x.2.1 x.2.2 ∧ WfD x.2.1 x.1) (fun x => l.length - x.1) (0, newD 4194304, H0) ⟨Nat.zero_le _, hG0, .new (by decide)⟩ ⟨⟨rfl, rfl, rfl, rfl, trivial⟩, List.Sublist.refl _, fun f hf => List.mem_append_left _ hf, rfl⟩ ?_
      rintro ⟨i, D, H⟩ ⟨hil, hG, hW⟩
      try simp only at hil hG hW ⊢
      refine J_seq ?_
      refine J_seq ?_
      refine J_region ?_
      refine L_v rfl rfl rfl (V_move rfl rfl) ?_
      refine L_v rfl rfl rfl (V_move rfl rfl) ?_
      refine L_v rfl rfl rfl (V_len rfl rfl Tryd.underlying40 rfl) ?_
      refine L_v rfl rfl rfl (V_lss rfl rfl rfl rfl) ?_
      refine L_nil ?_
      change J _ _ _ _
      refine J_cond rfl (fun h3 => ?_) (fun h3 => ?_)
      ·
        first | (have h3 := of_decide_eq_true h3) | (have h3 := of_decide_eq_false h3) | skip
        have hi : i < l.length := by omega
        have hAt : ∃ b off, a0 = some ⟨b, off, none⟩ := by obtain ⟨b, off, e, _⟩ := hsl.cell (op_at hi 0 _ rfl); exact ⟨b, off, e⟩
        refine J_skip ?_
        change J _ _ _ _
        refine J_seq ?_
        refine J_block ?_
        refine J_region ?_
        refine L_v rfl rfl rfl (V_move rfl rfl) ?_
        refine L_v rfl rfl rfl (V_move rfl rfl) ?_
        refine L_v rfl rfl rfl (V_move rfl rfl) ?_
        refine L_v rfl rfl rfl (V_indexN rfl rfl rfl Tryd.underlying40 sz47wSto hAt (by omega) (by omega)) ?_
        refine L_v rfl rfl rfl (V_loadCN (vs := opC (l.getD i op0)) rfl rfl Tryd.underlying47 rfl (szd sz47wSto (by kernel_rfl)) (fun w hw => (hw.fa 0 rfl).l.1) (by exact Nat.zero_lt_succ _) (op_at hi)) ?_
        refine L_call rfl rfl rfl rfl tx22wSto (fun w1 hw => (call_w bd D H (l.getD i op0) w1 (hw.memAt (List.Sublist.cons _ (List.Sublist.refl _))) hG hW (by omega) (ops_hF hw (List.mem_of_getElem? (i := 0) rfl) (getD_mem hi) (List.Sublist.cons _ (List.Sublist.refl _))) (by have := (hlb i hi).1; omega)).mono ?_)
        rintro e w' ⟨H1, rfl, hG1, hU1⟩
        have hG1 : Good (opD D (l.getD i op0)) H1 := hG1
        have hU1 : Upd _ _ _ (dkM bd (opD D (l.getD i op0)) H1) [] := hU1
        refine ⟨_, _, _, rfl, OkW.upd (m1 := [(b0, row 47 (opC o))]) hw hU1, rfl, ?_⟩
        refine L_mem ((b0, row 47 (opC o)) :: dkM bd (opD D (l.getD i op0)) H1) rfl ?_
        refine L_nil ?_
        change J _ _ _ _
        refine J_region ?_
        refine L_v rfl rfl rfl (V_move rfl rfl) ?_
        refine L_v rfl rfl rfl (V_add (r := ((i + 1 : Nat) : Int)) rfl rfl rfl (by rw [IntKind.wrap_i64]; omega)) ?_
        refine L_v rfl rfl rfl (V_assign rfl rfl) ?_
        refine L_nil ?_
        exact ⟨(i + 1, opD D (l.getD i op0), H1), ⟨by show i + 1 ≤ l.length; omega, hG1, WfD.op hW _⟩, by show l.length - (i + 1) < l.length - i; omega, ⟨rfl, rfl, rfl, rfl, trivial⟩, List.Sublist.refl _, fun f hf => List.mem_append_left _ hf, rfl⟩
      ·
        first | (have h3 := of_decide_eq_true h3) | (have h3 := of_decide_eq_false h3) | skip
        have hsd := stop_down D
        refine J_exit ?_
        change J _ _ _ _
        refine J_seq ?_
        refine J_region ?_
        refine L_v rfl rfl rfl (V_move rfl rfl) ?_
        refine L_call rfl rfl rfl rfl tx27wSto (fun w1 hw => (stop_w bd D H 0 w1 (hw.memAt (List.Sublist.cons _ (List.Sublist.refl _))) hG hW (by omega)).mono ?_)
        rintro e w' ⟨H1, rfl, hG1, hU1⟩
        have hG1 : Good (stopD D 0) H1 := hG1
        have hU1 : Upd _ _ _ (dkM bd (stopD D 0) H1) [] := hU1
        refine ⟨_, _, _, rfl, OkW.upd (m1 := [(b0, row 47 (opC o))]) hw hU1, rfl, ?_⟩
        refine L_mem ((b0, row 47 (opC o)) :: dkM bd (stopD D 0) H1) rfl ?_
        refine L_nil ?_
        change J _ _ _ _
        refine J_seq ?_
        refine J_region ?_
        refine L_v rfl rfl rfl (V_move rfl rfl) ?_
        refine L_cons rfl (S_call rfl rfl rfl tx18wSto (fun w1 hw => (names_f bd (stopD D 0) H1 w1 (hw.memAt (List.Sublist.cons _ (List.Sublist.refl _))) hG1 (hW.stop 0) (by omega)).mono ?_))
        rintro e w' ⟨a1, c1, rfl, hfr, hn1⟩
        refine ⟨_, _, _, rfl, hw.newN hfr hn1, rfl, ?_⟩
        refine L_v rfl rfl rfl (V_assign rfl rfl) ?_
        refine L_nil ?_
        change J _ _ _ _
        refine J_seq ?_
        refine J_region ?_
        refine L_v rfl rfl rfl (V_move rfl rfl) ?_
        refine L_v rfl rfl rfl (V_fieldAddr rfl rfl Tryd.underlying47 rfl sz9wSto rfl) ?_
        refine L_v rfl rfl rfl (V_load1 0 rfl rfl rfl Tryd.underlying9 rfl (by rfl)) ?_
        refine L_call rfl rfl rfl rfl tx10wSto (fun w1 hw => (create_w bd (stopD D 0) H1 o.file w1 (hw.memAt (List.Sublist.cons _ (List.Sublist.refl _))) hG1 (hW.stop 0) (by omega)).mono ?_)
        rintro e w' ⟨H2, rfl, hG2, hU2⟩
        have hG2 : Good (stopD D 0) H2 := (by have h9 := hG2; rw [(dn_c hsd o.file).2] at h9; exact h9)
        have hU2 : Upd _ _ _ (dkM bd (stopD D 0) H2) [] := (by have h9 := hU2; rw [(dn_c hsd o.file).2] at h9; exact h9)
        refine ⟨.int .i64 (90), _, _, (by rw [(dn_c hsd o.file).1]), OkW.upd (m1 := [(b0, row 47 (opC o))]) hw hU2, rfl, ?_⟩
        refine L_mem ((b0, row 47 (opC o)) :: dkM bd (stopD D 0) H2) rfl ?_
        refine L_v rfl rfl rfl (V_eql rfl rfl rfl rfl) ?_
        refine L_v rfl rfl rfl (V_move rfl rfl) ?_
        refine L_wv rfl rfl rfl rfl rfl rfl (V_move rfl rfl) ?_
        refine L_wv rfl rfl rfl rfl rfl rfl (V_fieldAddr rfl rfl Tryd.underlying47 rfl sz9wSto rfl) ?_
        refine L_wv rfl rfl rfl rfl rfl rfl (V_load1 0 rfl rfl rfl Tryd.underlying9 rfl (by rfl)) ?_
        refine L_wv rfl rfl rfl rfl rfl rfl (V_fieldAddr rfl rfl Tryd.underlying47 rfl sz22wSto rfl) ?_
        refine L_wv rfl rfl rfl rfl rfl rfl (V_load1 0 rfl rfl rfl Tryd.underlying22 rfl (by rfl)) ?_
        refine L_wS rfl rfl rfl rfl (S_call rfl rfl rfl tx11wSto (fun w1 hw => (append_w bd (stopD D 0) H2 o.file o.ba o.bc o.bytes w1 (hw.memAt (List.Sublist.cons _ (List.Sublist.refl _))) hG2 (hW.stop 0) (by omega) (op_hB hw (List.mem_of_getElem? (i := 1) rfl) (List.Sublist.cons _ (List.Sublist.refl _)))).mono ?_))
        rintro e w' ⟨H3, rfl, hG3, hU3⟩
        have hG3 : Good (stopD D 0) H3 := (by have h9 := hG3; rw [(dn_a hsd o.file o.bytes).2] at h9; exact h9)
        have hU3 : Upd _ _ _ (dkM bd (stopD D 0) H3) [] := (by have h9 := hU3; rw [(dn_a hsd o.file o.bytes).2] at h9; exact h9)
        refine ⟨.int .i64 (90), _, _, (by rw [(dn_a hsd o.file o.bytes).1]), OkW.upd (m1 := [(b0, row 47 (opC o))]) hw hU3, rfl, ?_⟩
        refine L_mem ((b0, row 47 (opC o)) :: dkM bd (stopD D 0) H3) rfl ?_
        refine L_wv rfl rfl rfl rfl rfl rfl (V_eql rfl rfl rfl rfl) ?_
        first | refine L_v rfl rfl rfl (V_pickT rfl rfl rfl) ?_ | refine L_v rfl rfl rfl (V_pickF rfl rfl rfl) ?_
        refine L_v rfl rfl rfl (V_move rfl rfl) ?_
        refine L_wv rfl rfl rfl rfl rfl rfl (V_move rfl rfl) ?_
        refine L_wv rfl rfl rfl rfl rfl rfl (V_fieldAddr rfl rfl Tryd.underlying47 rfl sz9wSto rfl) ?_
        refine L_wv rfl rfl rfl rfl rfl rfl (V_load1 0 rfl rfl rfl Tryd.underlying9 rfl (by rfl)) ?_
        refine L_wS rfl rfl rfl rfl (S_call rfl rfl rfl tx12wSto (fun w1 hw => (sync_w bd (stopD D 0) H3 o.file w1 (hw.memAt (List.Sublist.cons _ (List.Sublist.refl _))) hG3 (hW.stop 0) (by omega)).mono ?_))
        rintro e w' ⟨H4, rfl, hG4, hU4⟩
        have hG4 : Good (stopD D 0) H4 := (by have h9 := hG4; rw [dn_s hsd o.file] at h9; exact h9)
        have hU4 : Upd _ _ _ (dkM bd (stopD D 0) H4) [] := (by have h9 := hU4; rw [dn_s hsd o.file] at h9; exact h9)
        refine ⟨.int .i64 (90), _, _, (by rw [dn_n hsd o.file]), OkW.upd (m1 := [(b0, row 47 (opC o))]) hw hU4, rfl, ?_⟩
        refine L_mem ((b0, row 47 (opC o)) :: dkM bd (stopD D 0) H4) rfl ?_
        refine L_wv rfl rfl rfl rfl rfl rfl (V_eql rfl rfl rfl rfl) ?_
        first | refine L_v rfl rfl rfl (V_pickT rfl rfl rfl) ?_ | refine L_v rfl rfl rfl (V_pickF rfl rfl rfl) ?_
        refine L_v rfl rfl rfl (V_assign rfl rfl) ?_
        refine L_nil ?_
        change J _ _ _ _
        refine J_seq ?_
        refine J_region ?_
        refine L_v rfl rfl rfl (V_move rfl rfl) ?_
        refine L_v rfl rfl rfl (V_fieldAddr rfl rfl Tryd.underlying47 rfl sz9wSto rfl) ?_
        refine L_v rfl rfl rfl (V_load1 0 rfl rfl rfl Tryd.underlying9 rfl (by rfl)) ?_
        refine L_v rfl rfl rfl (V_fieldAddr rfl rfl Tryd.underlying47 rfl sz9wSto rfl) ?_
        refine L_v rfl rfl rfl (V_load1 0 rfl rfl rfl Tryd.underlying9 rfl (by rfl)) ?_
        refine L_call rfl rfl rfl rfl tx14wSto (fun w1 hw => (rename_w bd (stopD D 0) H4 o.file o.to w1 (hw.memAt (List.Sublist.cons _ (List.Sublist.refl _))) hG4 (hW.stop 0) (by omega)).mono ?_)
        rintro e w' ⟨H5, rfl, hG5, hU5⟩
        have hG5 : Good (stopD D 0) H5 := (by have h9 := hG5; rw [(dn_r hsd o.file o.to).2] at h9; exact h9)
        have hU5 : Upd _ _ _ (dkM bd (stopD D 0) H5) [] := (by have h9 := hU5; rw [(dn_r hsd o.file o.to).2] at h9; exact h9)
        refine ⟨.int .i64 (90), _, _, (by rw [(dn_r hsd o.file o.to).1]), OkW.upd (m1 := [(b0, row 47 (opC o))]) hw hU5, rfl, ?_⟩
        refine L_mem ((b0, row 47 (opC o)) :: dkM bd (stopD D 0) H5) rfl ?_
        refine L_v rfl rfl rfl (V_eql rfl rfl rfl rfl) ?_
        refine L_v rfl rfl rfl (V_move rfl rfl) ?_
        refine L_wv rfl rfl rfl rfl rfl rfl (V_move rfl rfl) ?_
        refine L_wv rfl rfl rfl rfl rfl rfl (V_fieldAddr rfl rfl Tryd.underlying47 rfl sz9wSto rfl) ?_
        refine L_wv rfl rfl rfl rfl rfl rfl (V_load1 0 rfl rfl rfl Tryd.underlying9 rfl (by rfl)) ?_
        refine L_wS rfl rfl rfl rfl (S_call rfl rfl rfl tx19wSto (fun w1 hw => (remove_w bd (stopD D 0) H5 o.file w1 (hw.memAt (List.Sublist.cons _ (List.Sublist.refl _))) hG5 (hW.stop 0) (by omega)).mono ?_))
        rintro e w' ⟨H6, rfl, hG6, hU6⟩
        have hG6 : Good (stopD D 0) H6 := (by have h9 := hG6; rw [dn_d hsd o.file] at h9; exact h9)
        have hU6 : Upd _ _ _ (dkM bd (stopD D 0) H6) [] := (by have h9 := hU6; rw [dn_d hsd o.file] at h9; exact h9)
        refine ⟨.int .i64 (90), _, _, (by rw [dn_n hsd o.file]), OkW.upd (m1 := [(b0, row 47 (opC o))]) hw hU6, rfl, ?_⟩
        refine L_mem ((b0, row 47 (opC o)) :: dkM bd (stopD D 0) H6) rfl ?_
        refine L_wv rfl rfl rfl rfl rfl rfl (V_eql rfl rfl rfl rfl) ?_
        first | refine L_v rfl rfl rfl (V_pickT rfl rfl rfl) ?_ | refine L_v rfl rfl rfl (V_pickF rfl rfl rfl) ?_
        refine L_v rfl rfl rfl (V_move rfl rfl) ?_
        refine L_wv rfl rfl rfl rfl rfl rfl (V_move rfl rfl) ?_
        refine L_wS rfl rfl rfl rfl (S_call rfl rfl rfl tx13wSto (fun w1 hw => (syncNames_w bd (stopD D 0) H6  w1 (hw.memAt (List.Sublist.cons _ (List.Sublist.refl _))) hG6 (hW.stop 0) (by omega)).mono ?_))
        rintro e w' ⟨H7, rfl, hG7, hU7⟩
        have hG7 : Good (stopD D 0) H7 := (by have h9 := hG7; rw [namesD_no hsd] at h9; exact h9)
        have hU7 : Upd _ _ _ (dkM bd (stopD D 0) H7) [] := (by have h9 := hU7; rw [namesD_no hsd] at h9; exact h9)
        refine ⟨.int .i64 (90), _, _, (by rw [namesE_1 hsd]), OkW.upd (m1 := [(b0, row 47 (opC o))]) hw hU7, rfl, ?_⟩
        refine L_mem ((b0, row 47 (opC o)) :: dkM bd (stopD D 0) H7) rfl ?_
        refine L_wv rfl rfl rfl rfl rfl rfl (V_eql rfl rfl rfl rfl) ?_
        first | refine L_v rfl rfl rfl (V_pickT rfl rfl rfl) ?_ | refine L_v rfl rfl rfl (V_pickF rfl rfl rfl) ?_
        refine L_v rfl rfl rfl (V_move rfl rfl) ?_
        refine L_wv rfl rfl rfl rfl rfl rfl (V_move rfl rfl) ?_
        refine L_wv rfl rfl rfl rfl rfl rfl (V_fieldAddr rfl rfl Tryd.underlying47 rfl sz3wSto rfl) ?_
        refine L_wv rfl rfl rfl rfl rfl rfl (V_load1 0 rfl rfl rfl Tryd.underlying3 rfl (by rfl)) ?_
        refine L_wS rfl rfl rfl rfl (S_call rfl rfl rfl tx27wSto (fun w1 hw => (stop_w bd (stopD D 0) H7 o.n w1 (hw.memAt (List.Sublist.cons _ (List.Sublist.refl _))) hG7 (hW.stop 0) (by omega)).mono ?_))
        rintro e w' ⟨H8, rfl, hG8, hU8⟩
        have hG8 : Good (stopD D 0) H8 := (by have h9 := hG8; rw [(dn_t hsd o.n).2] at h9; exact h9)
        have hU8 : Upd _ _ _ (dkM bd (stopD D 0) H8) [] := (by have h9 := hU8; rw [(dn_t hsd o.n).2] at h9; exact h9)
        refine ⟨.int .i64 (90), _, _, (by rw [(dn_t hsd o.n).1]), OkW.upd (m1 := [(b0, row 47 (opC o))]) hw hU8, rfl, ?_⟩
        refine L_mem ((b0, row 47 (opC o)) :: dkM bd (stopD D 0) H8) rfl ?_
        refine L_wv rfl rfl rfl rfl rfl rfl (V_eql rfl rfl rfl rfl) ?_
        first | refine L_v rfl rfl rfl (V_pickT rfl rfl rfl) ?_ | refine L_v rfl rfl rfl (V_pickF rfl rfl rfl) ?_
        refine L_v rfl rfl rfl (V_assign rfl rfl) ?_
        refine L_nil ?_
        change J _ _ _ _
        refine J_seq ?_
        refine J_region ?_
        refine L_callV rfl rfl rfl rfl rfl rfl tx17wSto (fun w1 hw => awake_w w1) ?_
        refine L_v rfl rfl rfl (V_move rfl rfl) ?_
        refine L_wv rfl rfl rfl rfl rfl rfl (V_move rfl rfl) ?_
        first | refine L_v rfl rfl rfl (V_pickT rfl rfl rfl) ?_ | refine L_v rfl rfl rfl (V_pickF rfl rfl rfl) ?_
        refine L_v rfl rfl rfl (V_move rfl rfl) ?_
        refine L_wv rfl rfl rfl rfl rfl rfl (V_move rfl rfl) ?_
        first | refine L_v rfl rfl rfl (V_pickT rfl rfl rfl) ?_ | refine L_v rfl rfl rfl (V_pickF rfl rfl rfl) ?_
        refine L_v rfl rfl rfl (V_move rfl rfl) ?_
        refine L_wv rfl rfl rfl rfl rfl rfl (V_move rfl rfl) ?_
        refine L_wcallV rfl rfl rfl rfl rfl rfl rfl rfl rfl tx26wSto ((fun w1 hw => (down_w bd (stopD D 0) H8 w1 (hw.at (i := 1) rfl)).mono fun e w2 h => ⟨by rw [h.1, hsd], h.2⟩)) ?_
        first | refine L_v rfl rfl rfl (V_pickT rfl rfl rfl) ?_ | refine L_v rfl rfl rfl (V_pickF rfl rfl rfl) ?_
        refine L_v rfl rfl rfl (V_move rfl rfl) ?_
        refine L_wv rfl rfl rfl rfl rfl rfl (V_move rfl rfl) ?_
        refine L_wv rfl rfl rfl rfl rfl rfl (V_move rfl rfl) ?_
        refine L_wS rfl rfl rfl rfl (S_call rfl rfl rfl tx18wSto (fun w1 hw => (names_f bd (stopD D 0) H8 w1 (hw.memAt (List.Sublist.cons _ (List.Sublist.refl _))) hG8 (hW.stop 0) (by omega)).mono ?_))
        rintro e w' ⟨a2, c2, rfl, hfr, hn2⟩
        refine ⟨_, _, _, rfl, hw.newN hfr hn2, rfl, ?_⟩
        refine L_wcallV rfl rfl rfl rfl rfl rfl rfl rfl rfl tx28wSto ((fun w1 hw => (texts_w a1 a2 c1 c2 (stopD D 0).all (stopD D 0).all w1 (hw.facts _ (List.mem_of_getElem? (i := 2) rfl)).1 (hw.facts _ (List.mem_of_getElem? (i := 3) rfl)).1 (Nat.le_trans (hW.stop 0).alen (by omega))).mono fun e w2 h => ⟨by rw [h.1, decide_eq_true rfl], h.2⟩)) ?_
        first | refine L_v rfl rfl rfl (V_pickT rfl rfl rfl) ?_ | refine L_v rfl rfl rfl (V_pickF rfl rfl rfl) ?_
        refine L_v rfl rfl rfl (V_assign rfl rfl) ?_
        refine L_nil ?_
        change J _ _ _ _
        refine J_ret ?_
        change Kret _ _ _ Exit.ret _
        refine ret1 rfl rfl (RV_t rfl) ?_
        exact fun w' h => ⟨rfl, h.fr⟩

end Go.Proofs.YtcbpgnjlbbjieaaDoor
