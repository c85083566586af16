/- The law DiskRuns: its walk. -/
import Derived.Test.YtcbpgnjlbbjieaaDoorD16
set_option linter.unusedVariables false
set_option linter.unusedSimpArgs false
set_option maxRecDepth 100000
namespace Go.Proofs.YtcbpgnjlbbjieaaDoor
open Go.Sx
theorem ops_hF {cx : Cx} {m m' : Mem} {fs : List Fact} {w : World} (h : OkW cx m fs w) {a : Option Addr} {c : Nat} {l : List OpV} (hf0 : opsF a c l ∈ fs) {x : OpV} (hx : x ∈ l) (hm : List.Sublist m' m) : ∀ f ∈ [opF x], f.p w ∧ ∀ k, f.fp k → k < w.heap.size ∧ k ∉ m'.map (·.1) := by
  intro f hf
  obtain rfl := List.mem_singleton.1 hf
  have h9 := h.facts _ hf0
  have hx' : opF x ∈ l.map opF := List.mem_map.2 ⟨x, hx, rfl⟩
  exact ⟨h9.1.2 _ hx', fun k hk => ⟨(h9.2 k (.inr ⟨_, hx', hk⟩)).1, fun hkm => (h9.2 k (.inr ⟨_, hx', hk⟩)).2 ((hm.map _).subset hkm)⟩⟩
theorem sz9dq : (Tryd.prog.info? 9).map (·.size) = some 1 := by kernel_rfl
theorem sz47dq : (Tryd.prog.info? 47).map (·.size) = some 7 := by kernel_rfl
theorem tx9dq : Txt Tryd.prog 9 := txt_of Tryd.func9 rfl (by kernel_rfl)
theorem tx17dq : Txt Tryd.prog 17 := txt_of Tryd.func17 rfl (by kernel_rfl)
theorem tx20dq : Txt Tryd.prog 20 := txt_of Tryd.func20 rfl (by kernel_rfl)
theorem tx21dq : Txt Tryd.prog 21 := txt_of Tryd.func21 rfl (by kernel_rfl)
theorem tx22dq : Txt Tryd.prog 22 := txt_of Tryd.func22 rfl (by kernel_rfl)
theorem tx23dq : Txt Tryd.prog 23 := txt_of Tryd.func23 rfl (by kernel_rfl)
theorem tx24dq : Txt Tryd.prog 24 := txt_of Tryd.func24 rfl (by kernel_rfl)
theorem tx25dq : Txt Tryd.prog 25 := txt_of Tryd.func25 rfl (by kernel_rfl)

set_option maxHeartbeats 4000000 in
theorem DiskRuns_w (room : Int) (a0 : Option Addr) (c0 : Nat) (l : List OpV) (w : World) (hF : FW w [opsF a0 c0 l]) (hz : ∀ o ∈ l, o.file.size ≤ 9223372036854775807 ∧ o.to.size ≤ 9223372036854775807) :
    Calls Tryd.prog 5 #[.int .i64 room, .slice a0 l.length c0] w fun e w' => e = .returned (.bool true) ∧ Fr [] w w' := by
  have hsl := (hF _ (List.mem_cons_self ..)).l.1
  refine calls_of (args := [.int .i64 room, .slice a0 l.length c0]) ([]) ([]) ([opsF a0 c0 l]) Tryd.func5 rfl rfl (okFW hF) ?_
  by_cases hr : 1 ≤ room ∧ room ≤ 4194304
  ·
    refine J_seq ?_
    refine J_region ?_
    refine L_v rfl rfl rfl (V_assign rfl rfl) ?_
    refine L_nil ?_
    change J _ _ _ _
    refine J_seq ?_
    refine J_seq ?_
    refine J_region ?_
    refine L_v rfl rfl rfl (V_move rfl rfl) ?_
    refine L_cons rfl (S_call rfl rfl rfl tx20dq (fun w1 hw => (large_w a0 c0 l w1 (hw.fa 0 rfl).l.1).mono ?_))
    rintro e w' ⟨bl, rfl, hfr, hlg⟩
    refine ⟨_, _, _, rfl, hw.fr0 hfr, rfl, ?_⟩
    refine L_nil ?_
    change J _ _ _ _
    refine J_cond rfl (fun h1 => ?_) (fun h1 => ?_)
    ·
      first | (have h1 := of_decide_eq_true h1) | (have h1 := of_decide_eq_false h1) | skip
      refine J_seq ?_
      refine J_region ?_
      refine L_v rfl rfl rfl (V_assign rfl rfl) ?_
      refine L_nil ?_
      change J _ _ _ _
      refine J_ret ?_
      change Kret _ _ _ Exit.ret _
      refine ret1 rfl rfl (RV_t rfl) ?_
      exact fun w' h => ⟨rfl, h.fr⟩
    ·
      first | (have h1 := of_decide_eq_true h1) | (have h1 := of_decide_eq_false h1) | skip
      obtain ⟨hl2, hlb⟩ := hlg h1
      refine J_skip ?_
      change J _ _ _ _
      refine J_seq ?_
      refine J_region ?_
      refine L_v rfl rfl rfl (V_move rfl rfl) ?_
      refine L_call rfl rfl rfl rfl tx9dq (fun w1 hw => (new_w room w1).mono ?_)
      rintro e w' (⟨h9, _⟩ | ⟨_, bd, H0, rfl, hG0, hU0⟩)
      · exact absurd hr h9
      have hG0 : Good (newD room) H0 := hG0
      have hU0 : Upd _ _ _ (dkM bd (newD room) H0) [] := hU0
      refine ⟨_, _, _, rfl, OkW.upd (m1 := []) hw hU0, rfl, ?_⟩
      refine L_mem (dkM bd (newD room) H0) rfl ?_
      refine L_v rfl rfl rfl (V_move rfl rfl) ?_
      refine L_v rfl rfl rfl (V_extract rfl rfl rfl) ?_
      refine L_v rfl rfl rfl (V_extract rfl rfl rfl) ?_
      refine L_v rfl rfl rfl (V_assign rfl rfl) ?_
      refine L_v rfl rfl rfl (V_assign rfl rfl) ?_
      refine L_nil ?_
      change J _ _ _ _
      refine J_seq ?_
      refine J_region ?_
      refine L_v rfl rfl rfl (V_move rfl rfl) ?_
      refine L_call rfl rfl rfl rfl tx21dq (fun w1 hw => (rnew_w room w1).mono ?_)
      rintro e w' (⟨h9, _⟩ | ⟨_, br, HR0, rfl, hR0, hUR, hFp, hFn⟩)
      · exact absurd hr h9
      refine ⟨_, _, _, rfl, (hw.addL hUR.fr hUR.newL).deriv hFp (fun k hk => absurd hk (hFn k)), rfl, ?_⟩
      refine L_v rfl rfl rfl (V_move rfl rfl) ?_
      refine L_v rfl rfl rfl (V_extract rfl rfl rfl) ?_
      refine L_v rfl rfl rfl (V_extract rfl rfl rfl) ?_
      refine L_v rfl rfl rfl (V_assign rfl rfl) ?_
      refine L_v rfl rfl rfl (V_assign rfl rfl) ?_
      refine L_nil ?_
      change J _ _ _ _
      refine J_seq ?_
      refine J_seq ?_
      refine J_region ?_
      refine L_v rfl rfl rfl (V_move rfl rfl) ?_
      refine L_v rfl rfl rfl (V_eqP rfl rfl rfl Tryd.underlying24 rfl) ?_
      refine L_v rfl rfl rfl (V_move rfl rfl) ?_
      refine L_wv rfl rfl rfl rfl rfl rfl (V_move rfl rfl) ?_
      refine L_wv rfl rfl rfl rfl rfl rfl (V_eqP rfl rfl rfl Tryd.underlying42 rfl) ?_
      first | refine L_v rfl rfl rfl (V_pickT rfl rfl rfl) ?_ | refine L_v rfl rfl rfl (V_pickF rfl rfl rfl) ?_
      refine L_v rfl rfl rfl (V_move rfl rfl) ?_
      refine L_wv rfl rfl rfl rfl rfl rfl (V_move rfl rfl) ?_
      refine L_wv rfl rfl rfl rfl rfl rfl (V_move rfl rfl) ?_
      refine L_wv rfl rfl rfl rfl rfl rfl (V_neq rfl rfl rfl rfl) ?_
      first | refine L_v rfl rfl rfl (V_pickT rfl rfl rfl) ?_ | refine L_v rfl rfl rfl (V_pickF rfl rfl rfl) ?_
      refine L_nil ?_
      change J _ _ _ _
      refine J_false rfl ?_
      refine J_skip ?_
      change J _ _ _ _
      refine J_seq ?_
      refine J_seq ?_
      refine J_region ?_
      refine L_v rfl rfl rfl (V_assign rfl rfl) ?_
      refine L_nil ?_
      change J _ _ _ _
      refine J_block ?_
      refine J_loop (X := Nat × Dk × DkH × RkH) (fun x => { env := [(1, .slice a0 l.length c0), (5, .pointer (some ⟨bd, 0, none⟩)), (7, .pointer (some ⟨br, 0, none⟩)), (9, .int .i64 (x.1 : Int))], mem := dkM bd x.2.1 x.2.2.1 ++ rkM br x.2.1 x.2.2.2, facts := [opsF a0 c0 l, rkF x.2.1 x.2.2.2] }) (fun x => x.1 ≤ l.length ∧ Good x.2.1 x.2.2.1 ∧ GoodR x.2.1 x.2.2.2 ∧ WfD x.2.1 x.1) (fun x => l.length - x.1) (0, newD room, H0, HR0) ⟨Nat.zero_le _, hG0, hR0, .new hr⟩ ⟨⟨rfl, rfl, rfl, rfl, trivial⟩, List.Sublist.refl _, fun f hf => hf, rfl⟩ ?_
      rintro ⟨i, D, H, HR⟩ ⟨hil, hG, hGR, hW⟩
      try simp only at hil hG hGR hW ⊢
      refine J_seq ?_
      refine J_seq ?_
      refine J_region ?_
      refine L_v rfl rfl rfl (V_move rfl rfl) ?_
      refine L_v rfl rfl rfl (V_move rfl rfl) ?_
      refine L_v rfl rfl rfl (V_len rfl rfl Tryd.underlying40 rfl) ?_
      refine L_v rfl rfl rfl (V_lss rfl rfl rfl rfl) ?_
      refine L_nil ?_
      change J _ _ _ _
      refine J_cond rfl (fun h2 => ?_) (fun h2 => ?_)
      ·
        first | (have h2 := of_decide_eq_true h2) | (have h2 := of_decide_eq_false h2) | skip
        have hi : i < l.length := by omega
        have hAt : ∃ b off, a0 = some ⟨b, off, none⟩ := by obtain ⟨b, off, e, _⟩ := hsl.cell (op_at hi 0 _ rfl); exact ⟨b, off, e⟩
        refine J_skip ?_
        change J _ _ _ _
        refine J_seq ?_
        refine J_block ?_
        refine J_seq ?_
        refine J_seq ?_
        refine J_regionO (.pure 0 (.pure 1 (.pure 2 (.pure 3 (.pure 4 (.pure 6 (.pure 7 (.pure 8 (.pure 9 (.pure 10 (.one 5 (.one 11 (.pure 12 (.pure 13 (.pure 14 (.pure 15 (.one 16 (.pure 17 (.pure 18 (.nil)))))))))))))))))))) ([]) _ (Pk.of_sub (List.nil_sublist _)) (fun f hf => hf) rfl rfl (by kernel_rfl) ?_
        refine LO_v rfl rfl rfl rfl (V_move rfl rfl) ?_
        refine LO_v rfl rfl rfl rfl (V_move rfl rfl) ?_
        refine LO_v rfl rfl rfl rfl (V_move rfl rfl) ?_
        refine LO_v rfl rfl rfl rfl (V_indexN rfl rfl rfl Tryd.underlying40 sz47dq hAt (by omega) (by omega)) ?_
        refine LO_v rfl rfl rfl rfl (V_loadCN (vs := opC (l.getD i op0)) rfl rfl Tryd.underlying47 rfl (szd sz47dq (by kernel_rfl)) (fun w hw => (hw.fa 0 rfl).l.1) (by exact Nat.zero_lt_succ _) (op_at hi)) ?_
        refine LO_v rfl rfl rfl rfl (V_move rfl rfl) ?_
        refine LO_v rfl rfl rfl rfl (V_move rfl rfl) ?_
        refine LO_v rfl rfl rfl rfl (V_move rfl rfl) ?_
        refine LO_v rfl rfl rfl rfl (V_indexN rfl rfl rfl Tryd.underlying40 sz47dq hAt (by omega) (by omega)) ?_
        refine LO_v rfl rfl rfl rfl (V_loadCN (vs := opC (l.getD i op0)) rfl rfl Tryd.underlying47 rfl (szd sz47dq (by kernel_rfl)) (fun w hw => (hw.fa 0 rfl).l.1) (by exact Nat.zero_lt_succ _) (op_at hi)) ?_
        refine LO_s rfl rfl rfl (S_call rfl rfl rfl tx22dq (fun w1 hw => (call_w bd D H (l.getD i op0) w1 (hw.memAt (List.sublist_append_left _ _)) hG hW (by omega) (ops_hF hw (List.mem_of_getElem? (i := 0) rfl) (getD_mem hi) (List.sublist_append_left _ _)) (by have := (hlb i hi).1; omega)).mono ?_))
        rintro e w' ⟨H1, rfl, hG1, hU1⟩
        refine ⟨_, _, _, rfl, OkW.upd (m1 := rkM br D HR) (hw.perm List.perm_append_comm) hU1, rfl, (Pk.of_sub (List.nil_sublist _)), (fun f hf => hf), ?_⟩
        refine LO_s rfl rfl rfl (S_call rfl rfl rfl tx23dq (fun w1 hw => (model_w br D HR (l.getD i op0) w1 (hw.memAt (List.sublist_append_left _ _)) hGR hW (hf_sub hw (List.sublist_append_left _ _) (fun x hx => by
            rcases List.mem_cons.1 hx with rfl | hx
            · exact ⟨_, List.mem_of_getElem? (i := 1) rfl, id, fun _ h => h⟩
            · obtain rfl := List.mem_singleton.1 hx
              exact ⟨_, List.mem_of_getElem? (i := 0) rfl, fun h => h.2 _ (List.mem_map.2 ⟨_, getD_mem hi, rfl⟩), fun k h => .inr ⟨_, List.mem_map.2 ⟨_, getD_mem hi, rfl⟩, h⟩⟩)) (by omega) (hz _ (getD_mem hi))).mono ?_))
        rintro e w' ⟨HR1, rfl, hGR1, hU2⟩
        refine ⟨_, _, _, rfl, OkW.updG (m1 := dkM bd (opD D (l.getD i op0)) H1) (hw.perm List.perm_append_comm) (fun x hx => by obtain rfl := List.mem_singleton.1 hx; exact List.mem_of_getElem? (i := 1) rfl) hU2, rfl, (Pk.of_sub (List.nil_sublist _)), (fun f hf => List.mem_append_left _ hf), ?_⟩
        refine LO_v rfl rfl rfl rfl (V_neq rfl rfl rfl (decide_eq_false (fun h => h rfl))) ?_
        refine LO_v rfl rfl rfl rfl (V_move rfl rfl) ?_
        refine LO_wv rfl rfl rfl rfl rfl rfl rfl (V_move rfl rfl) ?_
        refine LO_wv rfl rfl rfl rfl rfl rfl rfl (V_move rfl rfl) ?_
        refine LO_wcallV rfl rfl rfl rfl rfl rfl rfl rfl rfl rfl rfl tx24dq (fun w1 hw => same_w bd br (opD D (l.getD i op0)) H1 HR1 w1 (hw.memAt (List.sublist_append_left _ _)) (hw.memAt (List.sublist_append_right _ _)) hG1 hGR1 (WfD.op hW (l.getD i op0)) (by omega) (hw.fa 2 rfl)) (Pk.of_sub (List.nil_sublist _)) (fun f hf => List.mem_append_left _ hf) ?_
        refine LO_wv rfl rfl rfl rfl rfl rfl rfl (V_not rfl rfl rfl) ?_
        first | refine LO_v rfl rfl rfl rfl (V_pickT rfl rfl rfl) ?_ | refine LO_v rfl rfl rfl rfl (V_pickF rfl rfl rfl) ?_
        refine LO_nil ?_
        change J _ _ _ _
        refine J_false rfl ?_
        refine J_skip ?_
        change J _ _ _ _
        refine J_seq ?_
        refine J_region ?_
        refine L_v rfl rfl rfl (V_move rfl rfl) ?_
        refine L_v rfl rfl rfl (V_move rfl rfl) ?_
        refine L_v rfl rfl rfl (V_move rfl rfl) ?_
        refine L_v rfl rfl rfl (V_move rfl rfl) ?_
        refine L_v rfl rfl rfl (V_indexN rfl rfl rfl Tryd.underlying40 sz47dq hAt (by omega) (by omega)) ?_
        refine L_v rfl rfl rfl (V_fieldC rfl rfl (fun _ _ => hAt) Tryd.underlying47 rfl sz9dq rfl) ?_
        refine L_v rfl rfl rfl (V_loadC rfl rfl Tryd.underlying9 rfl (fun w hw => (hw.fa 0 rfl).l.1) (op_at hi 1 _ rfl)) ?_
        refine L_callV rfl rfl rfl rfl rfl rfl tx25dq (fun w1 hw => reads_w bd br (opD D (l.getD i op0)) H1 HR1 (l.getD i op0).file w1 (hw.memAt (List.sublist_append_left _ _)) (hw.memAt (List.sublist_append_right _ _)) hG1 hGR1 (WfD.op hW (l.getD i op0)) (by omega) (hw.fa 2 rfl)) ?_
        refine L_v rfl rfl rfl (V_not rfl rfl rfl) ?_
        refine L_v rfl rfl rfl (V_move rfl rfl) ?_
        refine L_wv rfl rfl rfl rfl rfl rfl (V_move rfl rfl) ?_
        refine L_wv rfl rfl rfl rfl rfl rfl (V_move rfl rfl) ?_
        refine L_wv rfl rfl rfl rfl rfl rfl (V_move rfl rfl) ?_
        refine L_wv rfl rfl rfl rfl rfl rfl (V_move rfl rfl) ?_
        refine L_wv rfl rfl rfl rfl rfl rfl (V_indexN rfl rfl rfl Tryd.underlying40 sz47dq hAt (by omega) (by omega)) ?_
        refine L_wv rfl rfl rfl rfl rfl rfl (V_fieldC rfl rfl (fun _ _ => hAt) Tryd.underlying47 rfl sz9dq rfl) ?_
        refine L_wv rfl rfl rfl rfl rfl rfl (V_loadC rfl rfl Tryd.underlying9 rfl (fun w hw => (hw.fa 0 rfl).l.1) (op_at hi 2 _ rfl)) ?_
        refine L_wcallV rfl rfl rfl rfl rfl rfl rfl rfl rfl tx25dq (fun w1 hw => reads_w bd br (opD D (l.getD i op0)) H1 HR1 (l.getD i op0).to w1 (hw.memAt (List.sublist_append_left _ _)) (hw.memAt (List.sublist_append_right _ _)) hG1 hGR1 (WfD.op hW (l.getD i op0)) (by omega) (hw.fa 2 rfl)) ?_
        refine L_wv rfl rfl rfl rfl rfl rfl (V_not rfl rfl rfl) ?_
        first | refine L_v rfl rfl rfl (V_pickT rfl rfl rfl) ?_ | refine L_v rfl rfl rfl (V_pickF rfl rfl rfl) ?_
        refine L_nil ?_
        change J _ _ _ _
        refine J_false rfl ?_
        refine J_skip ?_
        change J _ _ _ _
        refine J_region ?_
        refine L_v rfl rfl rfl (V_move rfl rfl) ?_
        refine L_v rfl rfl rfl (V_add (r := ((i + 1 : Nat) : Int)) rfl rfl rfl (by rw [IntKind.wrap_i64]; omega)) ?_
        refine L_v rfl rfl rfl (V_assign rfl rfl) ?_
        refine L_nil ?_
        exact ⟨(i + 1, opD D (l.getD i op0), H1, HR1), ⟨by show i + 1 ≤ l.length; omega, hG1, hGR1, WfD.op hW _⟩, by show l.length - (i + 1) < l.length - i; omega, ⟨rfl, rfl, rfl, rfl, trivial⟩, List.Sublist.refl _, (fun f hf => by
          have hf : f ∈ [opsF a0 c0 l, rkF (opD D (l.getD i op0)) HR1] := hf
          simp only [List.mem_cons, List.not_mem_nil, or_false] at hf
          rcases hf with rfl | rfl
          · exact List.mem_append_left _ (List.mem_cons_self ..)
          · exact List.mem_append_right _ (List.mem_singleton.2 rfl)), rfl⟩
      ·
        first | (have h2 := of_decide_eq_true h2) | (have h2 := of_decide_eq_false h2) | skip
        refine J_exit ?_
        change J _ _ _ _
        refine J_seq ?_
        refine J_region ?_
        refine L_callV rfl rfl rfl rfl rfl rfl tx17dq (fun w1 hw => awake_w w1) ?_
        refine L_v rfl rfl rfl (V_assign rfl rfl) ?_
        refine L_nil ?_
        change J _ _ _ _
        refine J_ret ?_
        change Kret _ _ _ Exit.ret _
        refine ret1 rfl rfl (RV_t rfl) ?_
        exact fun w' h => ⟨rfl, h.fr⟩
  ·
    refine J_seq ?_
    refine J_region ?_
    refine L_v rfl rfl rfl (V_assign rfl rfl) ?_
    refine L_nil ?_
    change J _ _ _ _
    refine J_seq ?_
    refine J_seq ?_
    refine J_region ?_
    refine L_v rfl rfl rfl (V_move rfl rfl) ?_
    refine L_cons rfl (S_call rfl rfl rfl tx20dq (fun w1 hw => (large_w a0 c0 l w1 (hw.fa 0 rfl).l.1).mono ?_))
    rintro e w' ⟨bl, rfl, hfr, hlg⟩
    refine ⟨_, _, _, rfl, hw.fr0 hfr, rfl, ?_⟩
    refine L_nil ?_
    change J _ _ _ _
    refine J_cond rfl (fun h1 => ?_) (fun h1 => ?_)
    ·
      first | (have h1 := of_decide_eq_true h1) | (have h1 := of_decide_eq_false h1) | skip
      refine J_seq ?_
      refine J_region ?_
      refine L_v rfl rfl rfl (V_assign rfl rfl) ?_
      refine L_nil ?_
      change J _ _ _ _
      refine J_ret ?_
      change Kret _ _ _ Exit.ret _
      refine ret1 rfl rfl (RV_t rfl) ?_
      exact fun w' h => ⟨rfl, h.fr⟩
    ·
      first | (have h1 := of_decide_eq_true h1) | (have h1 := of_decide_eq_false h1) | skip
      refine J_skip ?_
      change J _ _ _ _
      refine J_seq ?_
      refine J_region ?_
      refine L_v rfl rfl rfl (V_move rfl rfl) ?_
      refine L_callV rfl rfl rfl rfl rfl rfl tx9dq (fun w1 hw => (new_w room w1).mono fun e w2 h => h.elim (fun h => ⟨h.2.1, h.2.2⟩) (fun h => absurd h.1 hr)) ?_
      refine L_v rfl rfl rfl (V_move rfl rfl) ?_
      refine L_v rfl rfl rfl (V_extract rfl rfl rfl) ?_
      refine L_v rfl rfl rfl (V_extract rfl rfl rfl) ?_
      refine L_v rfl rfl rfl (V_assign rfl rfl) ?_
      refine L_v rfl rfl rfl (V_assign rfl rfl) ?_
      refine L_nil ?_
      change J _ _ _ _
      refine J_seq ?_
      refine J_region ?_
      refine L_v rfl rfl rfl (V_move rfl rfl) ?_
      refine L_callV rfl rfl rfl rfl rfl rfl tx21dq (fun w1 hw => (rnew_w room w1).mono fun e w2 h => h.elim (fun h => ⟨h.2.1, h.2.2⟩) (fun h => absurd h.1 hr)) ?_
      refine L_v rfl rfl rfl (V_move rfl rfl) ?_
      refine L_v rfl rfl rfl (V_extract rfl rfl rfl) ?_
      refine L_v rfl rfl rfl (V_extract rfl rfl rfl) ?_
      refine L_v rfl rfl rfl (V_assign rfl rfl) ?_
      refine L_v rfl rfl rfl (V_assign rfl rfl) ?_
      refine L_nil ?_
      change J _ _ _ _
      refine J_seq ?_
      refine J_seq ?_
      refine J_region ?_
      refine L_v rfl rfl rfl (V_move rfl rfl) ?_
      refine L_v rfl rfl rfl (V_eqP rfl rfl rfl Tryd.underlying24 rfl) ?_
      refine L_v rfl rfl rfl (V_move rfl rfl) ?_
      refine L_skip rfl rfl rfl rfl rfl rfl rfl ?_
      refine L_skip rfl rfl rfl rfl rfl rfl rfl ?_
      first | refine L_v rfl rfl rfl (V_pickT rfl rfl rfl) ?_ | refine L_v rfl rfl rfl (V_pickF rfl rfl rfl) ?_
      refine L_v rfl rfl rfl (V_move rfl rfl) ?_
      refine L_skip rfl rfl rfl rfl rfl rfl rfl ?_
      refine L_skip rfl rfl rfl rfl rfl rfl rfl ?_
      refine L_skip rfl rfl rfl rfl rfl rfl rfl ?_
      first | refine L_v rfl rfl rfl (V_pickT rfl rfl rfl) ?_ | refine L_v rfl rfl rfl (V_pickF rfl rfl rfl) ?_
      refine L_nil ?_
      change J _ _ _ _
      refine J_true rfl ?_
      refine J_seq ?_
      refine J_region ?_
      refine L_callV rfl rfl rfl rfl rfl rfl tx17dq (fun w1 hw => awake_w w1) ?_
      refine L_v rfl rfl rfl (V_move rfl rfl) ?_
      refine L_wv rfl rfl rfl rfl rfl rfl (V_move rfl rfl) ?_
      refine L_wv rfl rfl rfl rfl rfl rfl (V_eqP rfl rfl rfl Tryd.underlying24 rfl) ?_
      first | refine L_v rfl rfl rfl (V_pickT rfl rfl rfl) ?_ | refine L_v rfl rfl rfl (V_pickF rfl rfl rfl) ?_
      refine L_v rfl rfl rfl (V_move rfl rfl) ?_
      refine L_wv rfl rfl rfl rfl rfl rfl (V_move rfl rfl) ?_
      refine L_wv rfl rfl rfl rfl rfl rfl (V_eqP rfl rfl rfl Tryd.underlying42 rfl) ?_
      first | refine L_v rfl rfl rfl (V_pickT rfl rfl rfl) ?_ | refine L_v rfl rfl rfl (V_pickF rfl rfl rfl) ?_
      refine L_v rfl rfl rfl (V_move rfl rfl) ?_
      refine L_wv rfl rfl rfl rfl rfl rfl (V_move rfl rfl) ?_
      refine L_wv rfl rfl rfl rfl rfl rfl (V_move rfl rfl) ?_
      refine L_wv rfl rfl rfl rfl rfl rfl (V_eql rfl rfl rfl rfl) ?_
      first | refine L_v rfl rfl rfl (V_pickT rfl rfl rfl) ?_ | refine L_v rfl rfl rfl (V_pickF rfl rfl rfl) ?_
      refine L_v rfl rfl rfl (V_assign rfl rfl) ?_
      refine L_nil ?_
      change J _ _ _ _
      refine J_ret ?_
      change Kret _ _ _ Exit.ret _
      refine ret1 rfl rfl (RV_t rfl) ?_
      exact fun w' h => ⟨rfl, h.fr⟩

end Go.Proofs.YtcbpgnjlbbjieaaDoor
