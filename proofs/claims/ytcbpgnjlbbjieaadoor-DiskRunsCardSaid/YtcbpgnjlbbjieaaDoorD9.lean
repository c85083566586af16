/- The document's disk: a change done, all names, a name's body, a step. -/
import Derived.Test.YtcbpgnjlbbjieaaDoorD8
set_option linter.unusedVariables false
set_option linter.unusedSimpArgs false
set_option maxRecDepth 100000
namespace Go.Proofs.YtcbpgnjlbbjieaaDoor
open Go.Sx
theorem doN_nn {l : List Nm} {c : Ch} (h1 : c.1 = e0) (h2 : c.2.1 = e0) : doN l c = l := by unfold doN; rw [if_pos h2, if_pos h1]
theorem doN_yn {l : List Nm} {c : Ch} (h1 : ¬ c.1 = e0) (h2 : c.2.1 = e0) : doN l c = delN l c.1 := by unfold doN; rw [if_pos h2, if_neg h1]
theorem doN_ny {l : List Nm} {c : Ch} (h1 : c.1 = e0) (h2 : ¬ c.2.1 = e0) : doN l c = wiN l c.2 := by unfold doN; rw [if_neg h2, if_pos h1]
theorem doN_yy {l : List Nm} {c : Ch} (h1 : ¬ c.1 = e0) (h2 : ¬ c.2.1 = e0) : doN l c = wiN (delN l c.1) c.2 := by unfold doN; rw [if_neg h2, if_neg h1]
/-- Names told anew: of the old ones' blocks or of new ones. -/
def NlP (fs0 : List Fact) (l : List Nm) (w : World) : Ending → World → Prop := fun e w' => ∃ a' c', e = .returned (.slice a' l.length c') ∧ Fr [] w w' ∧ FG fs0 w w' (nmF a' c' l)
theorem LsP.nm {l : List Nm} {w w' : World} {e : Ending} (h : LsP l w e w') : NlP [] l w e w' := by
  obtain ⟨q, rfl, hq, hU⟩ := h
  exact ⟨pA q, pC q, rfl, hU.fr, Upd.fg hU hq⟩
theorem GoodR.slH {cx : Cx} {m : Mem} {fs : List Fact} {w : World} {D : Dk} {H : RkH} (hG : GoodR D H) (h : OkW cx m fs w) (hm : ∀ p ∈ pM 94 H.qc (chR D.ch), p ∈ m) : SlC 3 w (pV H.qc D.ch.length) D.ch.length (chR D.ch) := hG.c.slC (e := 94) h hm
theorem rli_len (D : Dk) (i : Nat) : ((D.ch.take i).foldl doN D.sf).length ≤ D.sf.length + D.ch.length := by
  have h1 := dos_len (D.ch.take i) D.sf
  have h2 : (D.ch.take i).length ≤ D.ch.length := List.length_take_le' _ _
  omega
theorem rsf_on (D : Dk) (H : RkH) (n : Nat) : ON [rkF D H] n (nmF H.sa H.sc D.sf) := fun k hk => .inl ⟨_, List.mem_singleton.2 rfl, .inl hk⟩
theorem sz3di : (Tryd.prog.info? 3).map (·.size) = some 1 := by kernel_rfl
theorem sz4di : (Tryd.prog.info? 4).map (·.size) = some 1 := by kernel_rfl
theorem sz9di : (Tryd.prog.info? 9).map (·.size) = some 1 := by kernel_rfl
theorem sz79di : (Tryd.prog.info? 79).map (·.size) = some 1 := by kernel_rfl
theorem sz80di : (Tryd.prog.info? 80).map (·.size) = some 1 := by kernel_rfl
theorem sz94di : (Tryd.prog.info? 94).map (·.size) = some 3 := by kernel_rfl
theorem sz96di : (Tryd.prog.info? 96).map (·.size) = some 2 := by kernel_rfl
theorem tx58di : Txt Tryd.prog 58 := txt_of Tryd.func58 rfl (by kernel_rfl)
theorem tx61di : Txt Tryd.prog 61 := txt_of Tryd.func61 rfl (by kernel_rfl)
theorem tx72di : Txt Tryd.prog 72 := txt_of Tryd.func72 rfl (by kernel_rfl)
theorem tx73di : Txt Tryd.prog 73 := txt_of Tryd.func73 rfl (by kernel_rfl)

theorem done_w (a : Option Addr) (c : Nat) (l : List Nm) (ch : Ch) (w : World) (hs : SlC 2 w (.slice a l.length c) l.length (nmR l)) (hl : l.length ≤ 549755813888) :
    Calls Tryd.prog 61 #[.slice a l.length c, .agg (chV ch).toArray] w fun e w' => NlP [nmF a c l] (doN l ch) w e w' := by
  refine calls_of (args := [.slice a l.length c, .agg (chV ch).toArray]) ([]) ([]) ([nmF a c l]) Tryd.func61 rfl rfl (okFW (.cons (.slc hs) .nil)) ?_
  refine J_seq ?_
  refine J_region ?_
  refine L_box rfl rfl rfl rfl rfl (fun b0 => ?_)
  refine L_v rfl rfl rfl (V_assign rfl rfl) ?_
  refine L_nil ?_
  change J _ _ _ _
  refine J_seq ?_
  refine J_seq ?_
  refine J_region ?_
  refine L_v rfl rfl rfl (V_fieldAddr rfl rfl Tryd.underlying94 rfl sz9di rfl) ?_
  refine L_v rfl rfl rfl (V_load1 0 rfl rfl rfl Tryd.underlying9 rfl (by rfl)) ?_
  refine L_v rfl rfl rfl (V_neS rfl rfl rfl rfl) ?_
  refine L_nil ?_
  change J _ _ _ _
  refine J_cond rfl (fun h1 => ?_) (fun h1 => ?_)
  ·
    first | (have h1 := of_decide_eq_true h1) | (have h1 := of_decide_eq_false h1) | skip
    refine J_region ?_
    refine L_v rfl rfl rfl (V_move rfl rfl) ?_
    refine L_v rfl rfl rfl (V_fieldAddr rfl rfl Tryd.underlying94 rfl sz9di rfl) ?_
    refine L_v rfl rfl rfl (V_load1 0 rfl rfl rfl Tryd.underlying9 rfl (by rfl)) ?_
    refine L_call rfl rfl rfl rfl tx72di (fun w1 hw => (without_w a c l ch.1 w1 (hw.fa 0 rfl).1 (by omega)).mono ?_)
    intro e w' he
    obtain ⟨a1, c1, rfl, hfr, hg⟩ := LsP.nm he
    have hn1 := hg.2.trans (fs := [nmF a c l]) (n := w.heap.size) (fun g hg => (by cases hg)) hw.fr.size
    have hd1 := delN_len l ch.1
    refine ⟨_, _, _, rfl, hw.addG (fun g hg => (by cases hg)) hfr hg, rfl, ?_⟩
    refine L_v rfl rfl rfl (V_assign rfl rfl) ?_
    refine L_nil ?_
    change J _ _ _ _
    refine J_seq ?_
    refine J_seq ?_
    refine J_region ?_
    refine L_v rfl rfl rfl (V_fieldAddr rfl rfl Tryd.underlying94 rfl sz9di rfl) ?_
    refine L_v rfl rfl rfl (V_load1 0 rfl rfl rfl Tryd.underlying9 rfl (by rfl)) ?_
    refine L_v rfl rfl rfl (V_neS rfl rfl rfl rfl) ?_
    refine L_nil ?_
    change J _ _ _ _
    refine J_cond rfl (fun h2 => ?_) (fun h2 => ?_)
    ·
      first | (have h2 := of_decide_eq_true h2) | (have h2 := of_decide_eq_false h2) | skip
      refine J_region ?_
      refine L_v rfl rfl rfl (V_move rfl rfl) ?_
      refine L_v rfl rfl rfl (V_fieldAddr rfl rfl Tryd.underlying94 rfl sz9di rfl) ?_
      refine L_v rfl rfl rfl (V_load1 0 rfl rfl rfl Tryd.underlying9 rfl (by rfl)) ?_
      refine L_v rfl rfl rfl (V_fieldAddr rfl rfl Tryd.underlying94 rfl sz3di rfl) ?_
      refine L_v rfl rfl rfl (V_load1 0 rfl rfl rfl Tryd.underlying3 rfl (by rfl)) ?_
      refine L_v rfl rfl rfl (V_buildE (v := .agg (nmC ch.2).toArray) rfl rfl (fun w => by kernel_rfl)) ?_
      refine L_call rfl rfl rfl rfl tx73di (fun w1 hw => (with_w a1 c1 (delN l ch.1) ch.2 w1 (hw.fa 1 rfl).1 (by omega)).mono ?_)
      intro e w' he
      obtain ⟨a2, c2, rfl, hfr, hg⟩ := LsP.nm he
      have hn2 := hg.2.trans (fs := [nmF a c l]) (n := w.heap.size) (fun g hg => (by cases hg)) hw.fr.size
      refine ⟨_, _, _, rfl, hw.addG (fun g hg => (by cases hg)) hfr hg, rfl, ?_⟩
      refine L_v rfl rfl rfl (V_assign rfl rfl) ?_
      refine L_nil ?_
      change J _ _ _ _
      refine J_seq ?_
      refine J_region ?_
      refine L_v rfl rfl rfl (V_move rfl rfl) ?_
      refine L_v rfl rfl rfl (V_assign rfl rfl) ?_
      refine L_nil ?_
      change J _ _ _ _
      refine J_ret ?_
      change Kret _ _ _ Exit.ret _
      refine ret1 rfl rfl (RV_t rfl) ?_
      rw [doN_yy h1 h2]
      exact fun w' h => ⟨a2, c2, rfl, h.fr, FG.of h (List.mem_append_right _ (List.mem_singleton.2 rfl)) hn2⟩
    ·
      first | (have h2 := of_decide_eq_true h2) | (have h2 := of_decide_eq_false h2) | skip
      have h2 : ch.2.1 = e0 := Classical.not_not.1 h2
      refine J_skip ?_
      change J _ _ _ _
      refine J_seq ?_
      refine J_region ?_
      refine L_v rfl rfl rfl (V_move rfl rfl) ?_
      refine L_v rfl rfl rfl (V_assign rfl rfl) ?_
      refine L_nil ?_
      change J _ _ _ _
      refine J_ret ?_
      change Kret _ _ _ Exit.ret _
      refine ret1 rfl rfl (RV_t rfl) ?_
      rw [doN_yn h1 h2]
      exact fun w' h => ⟨a1, c1, rfl, h.fr, FG.of h (List.mem_append_right _ (List.mem_singleton.2 rfl)) hn1⟩
  ·
    first | (have h1 := of_decide_eq_true h1) | (have h1 := of_decide_eq_false h1) | skip
    have h1 : ch.1 = e0 := Classical.not_not.1 h1
    refine J_skip ?_
    change J _ _ _ _
    refine J_seq ?_
    refine J_seq ?_
    refine J_region ?_
    refine L_v rfl rfl rfl (V_fieldAddr rfl rfl Tryd.underlying94 rfl sz9di rfl) ?_
    refine L_v rfl rfl rfl (V_load1 0 rfl rfl rfl Tryd.underlying9 rfl (by rfl)) ?_
    refine L_v rfl rfl rfl (V_neS rfl rfl rfl rfl) ?_
    refine L_nil ?_
    change J _ _ _ _
    refine J_cond rfl (fun h2 => ?_) (fun h2 => ?_)
    ·
      first | (have h2 := of_decide_eq_true h2) | (have h2 := of_decide_eq_false h2) | skip
      refine J_region ?_
      refine L_v rfl rfl rfl (V_move rfl rfl) ?_
      refine L_v rfl rfl rfl (V_fieldAddr rfl rfl Tryd.underlying94 rfl sz9di rfl) ?_
      refine L_v rfl rfl rfl (V_load1 0 rfl rfl rfl Tryd.underlying9 rfl (by rfl)) ?_
      refine L_v rfl rfl rfl (V_fieldAddr rfl rfl Tryd.underlying94 rfl sz3di rfl) ?_
      refine L_v rfl rfl rfl (V_load1 0 rfl rfl rfl Tryd.underlying3 rfl (by rfl)) ?_
      refine L_v rfl rfl rfl (V_buildE (v := .agg (nmC ch.2).toArray) rfl rfl (fun w => by kernel_rfl)) ?_
      refine L_call rfl rfl rfl rfl tx73di (fun w1 hw => (with_w a c l ch.2 w1 (hw.fa 0 rfl).1 (by omega)).mono ?_)
      intro e w' he
      obtain ⟨a2, c2, rfl, hfr, hg⟩ := LsP.nm he
      have hn2 := hg.2.trans (fs := [nmF a c l]) (n := w.heap.size) (fun g hg => (by cases hg)) hw.fr.size
      refine ⟨_, _, _, rfl, hw.addG (fun g hg => (by cases hg)) hfr hg, rfl, ?_⟩
      refine L_v rfl rfl rfl (V_assign rfl rfl) ?_
      refine L_nil ?_
      change J _ _ _ _
      refine J_seq ?_
      refine J_region ?_
      refine L_v rfl rfl rfl (V_move rfl rfl) ?_
      refine L_v rfl rfl rfl (V_assign rfl rfl) ?_
      refine L_nil ?_
      change J _ _ _ _
      refine J_ret ?_
      change Kret _ _ _ Exit.ret _
      refine ret1 rfl rfl (RV_t rfl) ?_
      rw [doN_ny h1 h2]
      exact fun w' h => ⟨a2, c2, rfl, h.fr, FG.of h (List.mem_append_right _ (List.mem_singleton.2 rfl)) hn2⟩
    ·
      first | (have h2 := of_decide_eq_true h2) | (have h2 := of_decide_eq_false h2) | skip
      have h2 : ch.2.1 = e0 := Classical.not_not.1 h2
      refine J_skip ?_
      change J _ _ _ _
      refine J_seq ?_
      refine J_region ?_
      refine L_v rfl rfl rfl (V_move rfl rfl) ?_
      refine L_v rfl rfl rfl (V_assign rfl rfl) ?_
      refine L_nil ?_
      change J _ _ _ _
      refine J_ret ?_
      change Kret _ _ _ Exit.ret _
      refine ret1 rfl rfl (RV_t rfl) ?_
      rw [doN_nn h1 h2]
      exact fun w' h => ⟨a, c, rfl, h.fr, FG.of h (List.mem_cons_self ..) (.self (List.mem_singleton.2 rfl))⟩

theorem all_w (b0 : Nat) (D : Dk) (H : RkH) (w : World) (hM : MemAt w (rkM b0 D H)) (hG : GoodR D H) (hF : FA w (rkF D H)) (hl : D.sf.length + D.ch.length ≤ 549755813888) :
    Calls Tryd.prog 58 #[.pointer (some ⟨b0, 0, none⟩)] w fun e w' => NlP [rkF D H] D.all w e w' := by
  refine calls_of (args := [.pointer (some ⟨b0, 0, none⟩)]) ([]) ([]) ([rkF D H, nmF H.sa H.sc D.sf]) Tryd.func58 rfl rfl (okFW (.cons hF (.cons hF.l .nil))) ?_
  refine J_seq ?_
  refine J_region ?_
  refine L_v rfl rfl rfl (V_assign rfl rfl) ?_
  refine L_nil ?_
  change J _ _ _ _
  refine J_seq ?_
  refine J_region ?_
  refine L_v rfl rfl rfl (V_move rfl rfl) ?_
  refine L_v rfl rfl rfl (V_nilCheck rfl rfl) ?_
  refine L_v rfl rfl rfl (V_fieldAddr rfl rfl Tryd.underlying82 rfl sz79di rfl) ?_
  refine L_v rfl rfl rfl (V_loadF rfl rfl Tryd.underlying79 rfl (fun w hw => OkW.later hw rfl (hM.1 b0 _ (List.mem_cons_self ..))) rfl) ?_
  refine L_v rfl rfl rfl (V_assign rfl rfl) ?_
  refine L_nil ?_
  change J _ _ _ _
  refine J_seq ?_
  refine J_seq ?_
  refine J_region ?_
  refine L_v rfl rfl rfl (V_assign rfl rfl) ?_
  refine L_nil ?_
  change J _ _ _ _
  refine J_block ?_
  refine J_loop (X := Nat × Option Addr × Nat) (fun x => { env := [(0, .pointer (some ⟨b0, 0, none⟩)), (3, .slice x.2.1 ((D.ch.take x.1).foldl doN D.sf).length x.2.2), (4, .int .i64 (x.1 : Int))], facts := [nmF x.2.1 x.2.2 ((D.ch.take x.1).foldl doN D.sf)] }) (fun x => x.1 ≤ D.ch.length ∧ ON [rkF D H] w.heap.size (nmF x.2.1 x.2.2 ((D.ch.take x.1).foldl doN D.sf))) (fun x => D.ch.length - x.1) (0, H.sa, H.sc) ⟨Nat.zero_le _, rsf_on D H _⟩ ⟨⟨rfl, rfl, rfl, trivial⟩, List.Sublist.refl _, fun f hf => List.mem_cons_of_mem _ hf, rfl⟩ ?_
  rintro ⟨i, a, c⟩ ⟨hil, hon⟩
  try simp only at hil hon ⊢
  refine J_seq ?_
  refine J_seq ?_
  refine J_region ?_
  refine L_v rfl rfl rfl (V_move rfl rfl) ?_
  refine L_v rfl rfl rfl (V_move rfl rfl) ?_
  refine L_v rfl rfl rfl (V_nilCheck rfl rfl) ?_
  refine L_v rfl rfl rfl (V_fieldAddr rfl rfl Tryd.underlying82 rfl sz80di rfl) ?_
  refine L_v rfl rfl rfl (V_loadF rfl rfl Tryd.underlying80 rfl (fun w hw => OkW.later hw rfl (hM.1 b0 _ (List.mem_cons_self ..))) rfl) ?_
  refine L_v rfl rfl rfl (V_len rfl rfl Tryd.underlying80 rfl) ?_
  refine L_v rfl rfl rfl (V_lss rfl rfl rfl rfl) ?_
  refine L_nil ?_
  change J _ _ _ _
  refine J_cond rfl (fun h1 => ?_) (fun h1 => ?_)
  ·
    first | (have h1 := of_decide_eq_true h1) | (have h1 := of_decide_eq_false h1) | skip
    have hic : i < D.ch.length := by omega
    have hAc := hG.c.at (by omega)
    refine J_skip ?_
    change J _ _ _ _
    refine J_seq ?_
    refine J_block ?_
    refine J_region ?_
    refine L_v rfl rfl rfl (V_move rfl rfl) ?_
    refine L_v rfl rfl rfl (V_move rfl rfl) ?_
    refine L_v rfl rfl rfl (V_nilCheck rfl rfl) ?_
    refine L_v rfl rfl rfl (V_fieldAddr rfl rfl Tryd.underlying82 rfl sz80di rfl) ?_
    refine L_v rfl rfl rfl (V_loadF rfl rfl Tryd.underlying80 rfl (fun w hw => OkW.later hw rfl (hM.1 b0 _ (List.mem_cons_self ..))) rfl) ?_
    refine L_v rfl rfl rfl (V_move rfl rfl) ?_
    refine L_v rfl rfl rfl (V_indexN rfl rfl rfl Tryd.underlying80 sz94di hAc (by omega) (by omega)) ?_
    refine L_v rfl rfl rfl (V_loadCN (vs := chV (D.ch.getD i (e0, e0, 0))) rfl rfl Tryd.underlying94 rfl (szd sz94di (by kernel_rfl)) (fun w hw => SlC.later hw rfl (hG.slH (okA (P := Tryd.prog) hM) (fun p hp => List.mem_cons_of_mem _ (List.mem_append_left _ hp)))) (by exact Nat.zero_lt_succ _) (ch_at hic)) ?_
    refine L_call rfl rfl rfl rfl tx61di (fun w1 hw => (done_w a c ((D.ch.take i).foldl doN D.sf) (D.ch.getD i (e0, e0, 0)) w1 (hw.fa 0 rfl).1 (by have := rli_len D i; omega)).mono ?_)
    rintro e w' ⟨a2, c2, rfl, hfr, hg⟩
    have hn2 := hg.2.trans (fs := [rkF D H]) (n := w.heap.size) (fun g hg => (by obtain rfl := List.mem_singleton.1 hg; exact hon)) hw.fr.size
    refine ⟨_, _, _, rfl, hw.addG (fun g hg => hg) hfr hg, rfl, ?_⟩
    refine L_v rfl rfl rfl (V_assign rfl rfl) ?_
    refine L_nil ?_
    change J _ _ _ _
    refine J_region ?_
    refine L_v rfl rfl rfl (V_move rfl rfl) ?_
    refine L_v rfl rfl rfl (V_add (r := ((i + 1 : Nat) : Int)) rfl rfl rfl (by rw [IntKind.wrap_i64]; omega)) ?_
    refine L_v rfl rfl rfl (V_assign rfl rfl) ?_
    refine L_nil ?_
    have e9 := crashS_take D i hic
    exact ⟨(i + 1, a2, c2), ⟨by show i + 1 ≤ _; omega, by show ON _ _ (nmF a2 c2 ((D.ch.take (i + 1)).foldl doN D.sf)); rw [e9]; exact hn2⟩, by show D.ch.length - (i + 1) < D.ch.length - i; omega, ⟨rfl, (by show _ = some (Value.slice a2 ((D.ch.take (i + 1)).foldl doN D.sf).length c2); rw [e9]; rfl), rfl, trivial⟩, List.Sublist.refl _, (fun f hf => by
      have hf : f ∈ [nmF a2 c2 ((D.ch.take (i + 1)).foldl doN D.sf)] := hf
      rw [e9] at hf
      exact List.mem_append_right _ hf), rfl⟩
  ·
    first | (have h1 := of_decide_eq_true h1) | (have h1 := of_decide_eq_false h1) | skip
    obtain rfl : i = D.ch.length := by omega
    rw [List.take_length] at hon
    have e9 : (D.ch.take D.ch.length).foldl doN D.sf = D.all := by rw [List.take_length]; rfl
    refine J_exit ?_
    change J _ _ _ _
    refine J_seq ?_
    refine J_region ?_
    refine L_v rfl rfl rfl (V_move rfl rfl) ?_
    refine L_v rfl rfl rfl (V_assign rfl rfl) ?_
    refine L_nil ?_
    change J _ _ _ _
    refine J_ret ?_
    change Kret _ _ _ Exit.ret _
    refine ret1 rfl rfl (RV_t rfl) ?_
    exact fun w' h => ⟨a, c, by rw [e9], h.fr, FG.of h (by rw [e9]; exact List.mem_singleton.2 rfl) hon⟩

theorem body_w {k : Nat} (b0 : Nat) (D : Dk) (H : RkH) (f : ByteArray) (w : World) (hM : MemAt w (rkM b0 D H)) (hG : GoodR D H) (hF : FA w (rkF D H)) (hW : WfD D k) (hl : D.sf.length + D.ch.length ≤ 549755813888) :
    Calls Tryd.prog 57 #[.pointer (some ⟨b0, 0, none⟩), .string f] w fun e w' => e = .returned (.int .i64 (bodyV D f)) ∧ Fr [] w w' := by
  have hal : D.all.length ≤ D.sf.length + D.ch.length := dos_len D.ch D.sf
  refine calls_of (args := [.pointer (some ⟨b0, 0, none⟩), .string f]) ([]) ([]) ([rkF D H]) Tryd.func57 rfl rfl (okFW (.cons hF .nil)) ?_
  refine J_seq ?_
  refine J_region ?_
  refine L_v rfl rfl rfl (V_assign rfl rfl) ?_
  refine L_nil ?_
  change J _ _ _ _
  refine J_seq ?_
  refine J_region ?_
  refine L_v rfl rfl rfl (V_move rfl rfl) ?_
  refine L_call rfl rfl rfl rfl tx58di (fun w1 hw => (all_w b0 D H w1 ⟨fun b o hb => OkW.later hw rfl (hM.1 b o hb), hM.2⟩ hG (hw.fa 0 rfl) hl).mono ?_)
  rintro e w' ⟨a, c, rfl, hfr, hg⟩
  refine ⟨_, _, _, rfl, hw.addG (fun g hg => hg) hfr hg, rfl, ?_⟩
  have hs := hg.1.1
  refine L_v rfl rfl rfl (V_assign rfl rfl) ?_
  refine L_nil ?_
  change J _ _ _ _
  refine J_seq ?_
  refine J_seq ?_
  refine J_region ?_
  refine L_v rfl rfl rfl (V_assign rfl rfl) ?_
  refine L_nil ?_
  change J _ _ _ _
  refine J_block ?_
  refine J_loop (X := Nat) (fun i => { env := [(1, .string f), (5, .slice a D.all.length c), (6, .int .i64 (i : Int))], facts := [nmF a c D.all] }) (fun i => i ≤ D.all.length ∧ ∀ j, j < i → (D.all.getD j (e0, 0)).1 ≠ f) (fun i => D.all.length - i) 0 ⟨Nat.zero_le _, fun j hj => absurd hj (Nat.not_lt_zero _)⟩ ⟨⟨rfl, rfl, rfl, trivial⟩, List.Sublist.refl _, fun f hf => List.mem_append_right _ hf, rfl⟩ ?_
  rintro i ⟨hil, hno⟩
  try simp only at hil hno ⊢
  refine J_seq ?_
  refine J_seq ?_
  refine J_region ?_
  refine L_v rfl rfl rfl (V_move rfl rfl) ?_
  refine L_v rfl rfl rfl (V_move rfl rfl) ?_
  refine L_v rfl rfl rfl (V_len rfl rfl Tryd.underlying79 rfl) ?_
  refine L_v rfl rfl rfl (V_lss rfl rfl rfl rfl) ?_
  refine L_nil ?_
  change J _ _ _ _
  refine J_cond rfl (fun h1 => ?_) (fun h1 => ?_)
  ·
    first | (have h1 := of_decide_eq_true h1) | (have h1 := of_decide_eq_false h1) | skip
    have hi : i < D.all.length := by omega
    refine J_skip ?_
    change J _ _ _ _
    refine J_seq ?_
    refine J_block ?_
    refine J_seq ?_
    refine J_region ?_
    refine L_v rfl rfl rfl (V_move rfl rfl) ?_
    refine L_v rfl rfl rfl (V_move rfl rfl) ?_
    refine L_v rfl rfl rfl (V_indexN rfl rfl rfl Tryd.underlying79 sz96di (nm_pos hs hi) (by omega) (by omega)) ?_
    refine L_v rfl rfl rfl (V_fieldC rfl rfl (fun _ _ => nm_pos hs hi) Tryd.underlying96 rfl sz9di rfl) ?_
    refine L_v rfl rfl rfl (V_loadC rfl rfl Tryd.underlying9 rfl (fun w hw => (hw.fa 0 rfl).1) (nmR_at hi 0 _ rfl)) ?_
    refine L_v rfl rfl rfl (V_move rfl rfl) ?_
    refine L_v rfl rfl rfl (V_eqS rfl rfl rfl rfl) ?_
    refine L_nil ?_
    change J _ _ _ _
    refine J_cond rfl (fun h2 => ?_) (fun h2 => ?_)
    ·
      first | (have h2 := of_decide_eq_true h2) | (have h2 := of_decide_eq_false h2) | skip
      refine J_seq ?_
      refine J_region ?_
      refine L_v rfl rfl rfl (V_move rfl rfl) ?_
      refine L_v rfl rfl rfl (V_move rfl rfl) ?_
      refine L_v rfl rfl rfl (V_indexN rfl rfl rfl Tryd.underlying79 sz96di (nm_pos hs hi) (by omega) (by omega)) ?_
      refine L_v rfl rfl rfl (V_fieldC rfl rfl (fun _ _ => nm_pos hs hi) Tryd.underlying96 rfl sz3di rfl) ?_
      refine L_v rfl rfl rfl (V_loadC rfl rfl Tryd.underlying3 rfl (fun w hw => (hw.fa 0 rfl).1) (nmR_at hi 1 _ rfl)) ?_
      refine L_v rfl rfl rfl (V_assign rfl rfl) ?_
      refine L_nil ?_
      change J _ _ _ _
      refine J_ret ?_
      change Kret _ _ _ Exit.ret _
      refine ret1 rfl rfl (RV_t rfl) ?_
      exact fun w' h => ⟨by rw [bodyV_yes hW hi h2], h.fr⟩
    ·
      first | (have h2 := of_decide_eq_true h2) | (have h2 := of_decide_eq_false h2) | skip
      refine J_skip ?_
      change J _ _ _ _
      refine J_region ?_
      refine L_v rfl rfl rfl (V_move rfl rfl) ?_
      refine L_v rfl rfl rfl (V_add (r := ((i + 1 : Nat) : Int)) rfl rfl rfl (by rw [IntKind.wrap_i64]; omega)) ?_
      refine L_v rfl rfl rfl (V_assign rfl rfl) ?_
      refine L_nil ?_
      exact ⟨i + 1, ⟨by omega, fun j hj => by
        by_cases h9 : j = i
        · subst h9
          exact h2
        · exact hno j (by omega)⟩, by omega, ⟨rfl, rfl, rfl, trivial⟩, List.Sublist.refl _, fun f hf => hf, rfl⟩
  ·
    first | (have h1 := of_decide_eq_true h1) | (have h1 := of_decide_eq_false h1) | skip
    refine J_exit ?_
    change J _ _ _ _
    refine J_seq ?_
    refine J_region ?_
    refine L_v rfl rfl rfl (V_assign rfl rfl) ?_
    refine L_nil ?_
    change J _ _ _ _
    refine J_ret ?_
    change Kret _ _ _ Exit.ret _
    refine ret1 rfl rfl (RV_t rfl) ?_
    exact fun w' h => ⟨by rw [bodyV_no (show D.all.length ≤ i by omega) hno], h.fr⟩

theorem rstep_w (b0 : Nat) (D : Dk) (H : RkH) (w : World) (hb : w.heap[b0]? = some (row 82 (rkC D H))) (hl : D.stops = true → 1 ≤ D.left ∧ D.left ≤ 1000000) :
    Calls Tryd.prog 60 #[.pointer (some ⟨b0, 0, none⟩)] w fun e w' => e = .returned (.int .i64 0) ∧ Fr [b0] w w' ∧ w'.heap[b0]? = some (row 82 (rkC D.step H)) := by
  refine calls_of (args := [.pointer (some ⟨b0, 0, none⟩)]) ([b0]) ([(b0, row 82 (rkC D H))]) ([]) Tryd.func60 rfl rfl (okM1 hb (by simp)) ?_
  refine J_seq ?_
  refine J_region ?_
  refine L_v rfl rfl rfl (V_assign rfl rfl) ?_
  refine L_nil ?_
  change J _ _ _ _
  refine J_seq ?_
  refine J_seq ?_
  refine J_region ?_
  refine L_v rfl rfl rfl (V_move rfl rfl) ?_
  refine L_v rfl rfl rfl (V_nilCheck rfl rfl) ?_
  refine L_v rfl rfl rfl (V_fieldAddr rfl rfl Tryd.underlying82 rfl sz4di rfl) ?_
  refine L_v rfl rfl rfl (V_load1 0 rfl rfl rfl Tryd.underlying4 rfl (by rfl)) ?_
  refine L_nil ?_
  change J _ _ _ _
  refine J_cond rfl (fun h1 => ?_) (fun h1 => ?_)
  ·
    first | (have h1 := of_decide_eq_true h1) | (have h1 := of_decide_eq_false h1) | skip
    have hl := hl h1
    refine J_seq ?_
    refine J_region ?_
    refine L_v rfl rfl rfl (V_move rfl rfl) ?_
    refine L_v rfl rfl rfl (V_nilCheck rfl rfl) ?_
    refine L_v rfl rfl rfl (V_fieldAddr rfl rfl Tryd.underlying82 rfl sz3di rfl) ?_
    refine L_v rfl rfl rfl (V_load1 0 rfl rfl rfl Tryd.underlying3 rfl (by rfl)) ?_
    refine L_v rfl rfl rfl (V_sub rfl rfl rfl (by first | exact Go.IntWalk.i64_in _ (by omega) | rfl)) ?_
    refine L_v rfl rfl rfl (V_nilCheck rfl rfl) ?_
    refine L_v rfl rfl rfl (V_fieldAddr rfl rfl Tryd.underlying82 rfl sz3di rfl) ?_
    refine L_store1 0 (l' := rkT D.room (pV H.qb H.bs.length) (.slice H.sa D.sf.length H.sc) (pV H.qc D.ch.length) D.down D.stops (D.left - 1)) rfl rfl rfl rfl rfl rfl rfl sz3di (Nat.le_of_ble_eq_true (by kernel_rfl)) (by kernel_rfl) ?_
    refine L_nil ?_
    change J _ _ _ _
    refine J_region ?_
    refine L_v rfl rfl rfl (V_move rfl rfl) ?_
    refine L_v rfl rfl rfl (V_move rfl rfl) ?_
    refine L_v rfl rfl rfl (V_nilCheck rfl rfl) ?_
    refine L_v rfl rfl rfl (V_fieldAddr rfl rfl Tryd.underlying82 rfl sz3di rfl) ?_
    refine L_v rfl rfl rfl (V_load1 0 rfl rfl rfl Tryd.underlying3 rfl (by rfl)) ?_
    refine L_v rfl rfl rfl (V_leq rfl rfl rfl rfl) ?_
    refine L_v rfl rfl rfl (V_nilCheck rfl rfl) ?_
    refine L_v rfl rfl rfl (V_fieldAddr rfl rfl Tryd.underlying82 rfl sz4di rfl) ?_
    refine L_store1 0 (l' := rkT D.room (pV H.qb H.bs.length) (.slice H.sa D.sf.length H.sc) (pV H.qc D.ch.length) (decide (D.left - 1 ≤ 0)) D.stops (D.left - 1)) rfl rfl rfl rfl rfl rfl rfl sz4di (Nat.le_of_ble_eq_true (by kernel_rfl)) (by kernel_rfl) ?_
    refine L_nil ?_
    change J _ _ _ _
    refine J_seq ?_
    refine J_region ?_
    refine L_v rfl rfl rfl (V_assign rfl rfl) ?_
    refine L_nil ?_
    change J _ _ _ _
    refine J_ret ?_
    change Kret _ _ _ Exit.ret _
    refine ret1 rfl rfl (RV_t rfl) ?_
    exact fun w' h => ⟨rfl, h.fr, by have h9 := h.at (i := 0) rfl; rw [h9]; show some (row _ (rkT _ _ _ _ _ D.stops _)) = some (row _ (rkT _ _ _ _ (if D.stops then _ else _) D.stops (if D.stops then _ else _))); rw [h1]; rfl⟩
  ·
    first | (have h1 := of_decide_eq_true h1) | (have h1 := of_decide_eq_false h1) | skip
    refine J_skip ?_
    change J _ _ _ _
    refine J_seq ?_
    refine J_region ?_
    refine L_v rfl rfl rfl (V_assign rfl rfl) ?_
    refine L_nil ?_
    change J _ _ _ _
    refine J_ret ?_
    change Kret _ _ _ Exit.ret _
    refine ret1 rfl rfl (RV_t rfl) ?_
    exact fun w' h => ⟨rfl, h.fr, by have h9 := h.at (i := 0) rfl; rw [h9]; show some (row _ (rkT _ _ _ _ _ D.stops _)) = some (row _ (rkT _ _ _ _ (if D.stops then _ else _) D.stops (if D.stops then _ else _))); rw [h1]; rfl⟩

end Go.Proofs.YtcbpgnjlbbjieaaDoor
