/- What the reference's functions that lay a message hand back. -/
import Derived.Test.YtfgcfjojpakpjaaWRef2
set_option linter.unusedVariables false
set_option linter.unusedSimpArgs false
set_option maxRecDepth 100000
namespace Go.Proofs.Ytfgcfjojpakpjaa
open Go.Sx
theorem then2_nil' (x : Except Int (List Int)) : then2 (.ok []) x = x := by cases x <;> rfl
theorem own_new {cx : Cx} {m : Mem} {fs : List Fact} {w : World} {q : OwnR} {M : List Int} (h : OkW cx m fs w) (hm : cx.mods = []) (hs : ∀ p ∈ ownM 5 q (dg M), p ∈ m) (hq : OwnC 1 q M.length (dg M)) : ∀ k, (factB (ownV q M.length) M).fp k → cx.w0.heap.size ≤ k := by
  rintro k ⟨hne, off, n, c, e⟩
  cases q with
  | none => exact absurd (List.eq_nil_of_length_eq_zero hq.1) hne
  | some q =>
    obtain ⟨g, c0, r⟩ := q
    simp only [ownV, oA, oC, Value.slice.injEq, Option.some.injEq, Addr.mk.injEq] at e
    obtain ⟨⟨rfl, _⟩, _⟩ := e
    have hp := hs (g, row 5 (dg M ++ r)) (by simp [ownM])
    rcases h.may g (List.mem_map.2 ⟨_, hp, rfl⟩) with h1 | h1
    · exact h1
    · rw [hm] at h1
      cases h1
theorem bdR0 (w : World) : (Instr.build 86 ([] : List (Nat × Value)).toArray).run Try.prog w = .ok (.agg [nilB, vi 0].toArray) w := by kernel_rfl
theorem own_sl {cx : Cx} {m1 : Mem} {fs : List Fact} {w : World} {q : OwnR} {M : List Int} (h : OkW cx (m1 ++ ownM 5 q (dg M)) fs w) (hq : OwnC 1 q M.length (dg M)) : SlB w (ownV q M.length) M :=
  SlB.ofN (m1 := m1) (m2 := []) (e := 5) (by rw [List.append_nil]; exact h) hq rfl
theorem sz27h : (Try.prog.info? 27).map (·.size) = some 97 := by kernel_rfl
theorem sz28h : (Try.prog.info? 28).map (·.size) = some 1 := by kernel_rfl
theorem sz29h : (Try.prog.info? 29).map (·.size) = some 1 := by kernel_rfl
theorem sz39h : (Try.prog.info? 39).map (·.size) = some 38 := by kernel_rfl
theorem sz49h : (Try.prog.info? 49).map (·.size) = some 43 := by kernel_rfl
theorem sz71h : (Try.prog.info? 71).map (·.size) = some 149 := by kernel_rfl
theorem tx40h : Txt Try.prog 40 := txt_of Try.func40 rfl (by kernel_rfl)
theorem tx41h : Txt Try.prog 41 := txt_of Try.func41 rfl (by kernel_rfl)
theorem tx46h : Txt Try.prog 46 := txt_of Try.func46 rfl (by kernel_rfl)
theorem tx51h : Txt Try.prog 51 := txt_of Try.func51 rfl (by kernel_rfl)
theorem tx63h : Txt Try.prog 63 := txt_of Try.func63 rfl (by kernel_rfl)

theorem done_err (b : Nat) (v : Value) (k : Int) (w : World) (hb : w.heap[b]? = some (row 86 [v, vi k])) (hk : k ≠ 0) :
    Calls Try.prog 41 #[.pointer (some ⟨b, 0, none⟩)] w fun e w' => e = .returned (.tuple #[.slice none 0 0, vi k]) ∧ Fr [] w w' := by
  refine calls_of (args := [.pointer (some ⟨b, 0, none⟩)]) ([]) ([]) ([]) Try.func41 rfl rfl (okW0 _ _ _ _) ?_
  refine J_seq ?_
  refine J_region ?_
  refine L_v rfl rfl rfl (V_assign rfl rfl) ?_
  refine L_v rfl rfl rfl (V_assign rfl rfl) ?_
  refine L_nil ?_
  change J _ _ _ _
  refine J_seq ?_
  refine J_seq ?_
  refine J_region ?_
  refine L_v rfl rfl rfl (V_move rfl rfl) ?_
  refine L_v rfl rfl rfl (V_nilCheck rfl rfl) ?_
  refine L_v rfl rfl rfl (V_fieldAddr rfl rfl Try.underlying86 rfl sz29h rfl) ?_
  refine L_v rfl rfl rfl (V_loadF rfl rfl Try.underlying29 rfl (fun w hw => OkW.later hw rfl hb) rfl) ?_
  refine L_v rfl rfl rfl (V_neq rfl rfl rfl (decide_eq_true hk)) ?_
  refine L_nil ?_
  change J _ _ _ _
  refine J_true rfl ?_
  refine J_seq ?_
  refine J_regionQ rfl (by kernel_rfl) ?_
  refine LQ_v rfl rfl rfl (V_move rfl rfl) ?_
  refine LQ_v rfl rfl rfl (V_nilCheck rfl rfl) ?_
  refine LQ_v rfl rfl rfl (V_fieldAddr rfl rfl Try.underlying86 rfl sz29h rfl) ?_
  refine LQ_v rfl rfl rfl (V_loadF rfl rfl Try.underlying29 rfl (fun w hw => OkW.later hw rfl hb) rfl) ?_
  refine LQ_v rfl rfl rfl (V_assign rfl rfl) ?_
  refine LQ_v rfl rfl rfl (V_assign rfl rfl) ?_
  refine LQ_nil ?_
  change J _ _ _ _
  refine J_ret ?_
  change Kret _ _ _ Exit.ret _
  refine ret2 rfl rfl (RV_t rfl) (RV_t rfl) ?_
  exact fun w' h => ⟨rfl, h.fr⟩

theorem done_ok (b : Nat) (v : Value) (w : World) (hb : w.heap[b]? = some (row 86 [v, vi 0])) :
    Calls Try.prog 41 #[.pointer (some ⟨b, 0, none⟩)] w fun e w' => e = .returned (.tuple #[v, vi 0]) ∧ Fr [] w w' := by
  refine calls_of (args := [.pointer (some ⟨b, 0, none⟩)]) ([]) ([]) ([]) Try.func41 rfl rfl (okW0 _ _ _ _) ?_
  refine J_seq ?_
  refine J_region ?_
  refine L_v rfl rfl rfl (V_assign rfl rfl) ?_
  refine L_v rfl rfl rfl (V_assign rfl rfl) ?_
  refine L_nil ?_
  change J _ _ _ _
  refine J_seq ?_
  refine J_seq ?_
  refine J_region ?_
  refine L_v rfl rfl rfl (V_move rfl rfl) ?_
  refine L_v rfl rfl rfl (V_nilCheck rfl rfl) ?_
  refine L_v rfl rfl rfl (V_fieldAddr rfl rfl Try.underlying86 rfl sz29h rfl) ?_
  refine L_v rfl rfl rfl (V_loadF rfl rfl Try.underlying29 rfl (fun w hw => OkW.later hw rfl hb) rfl) ?_
  refine L_v rfl rfl rfl (V_neq rfl rfl rfl rfl) ?_
  refine L_nil ?_
  change J _ _ _ _
  refine J_false rfl ?_
  refine J_skip ?_
  change J _ _ _ _
  refine J_seq ?_
  refine J_region ?_
  refine L_v rfl rfl rfl (V_move rfl rfl) ?_
  refine L_v rfl rfl rfl (V_nilCheck rfl rfl) ?_
  refine L_v rfl rfl rfl (V_fieldAddr rfl rfl Try.underlying86 rfl sz28h rfl) ?_
  refine L_v rfl rfl rfl (V_loadF rfl rfl Try.underlying28 rfl (fun w hw => OkW.later hw rfl hb) rfl) ?_
  refine L_v rfl rfl rfl (V_assign rfl rfl) ?_
  refine L_v rfl rfl rfl (V_assign rfl rfl) ?_
  refine L_nil ?_
  change J _ _ _ _
  refine J_ret ?_
  change Kret _ _ _ Exit.ret _
  refine ret2 rfl rfl (RV_t rfl) (RV_t rfl) ?_
  exact fun w' h => ⟨rfl, h.fr⟩

theorem rputsigned_w (x : Sg) (w : World) (hsz : 65545 * (4) ≤ 1099511627776) :
    Calls Try.prog 10 #[.agg (sgV x).toArray] w fun e w' => PutR w (encTs (sgC.tk x)) e w' := by
  refine calls_of (args := [.agg (sgV x).toArray]) ([]) ([]) ([]) Try.func10 rfl rfl (okW_facts (fun f hf => by cases hf)) ?_
  rcases hE : encTs (sgC.tk x) with k | M
  ·
    refine J_seq ?_
    refine J_region ?_
    refine L_box rfl rfl rfl rfl rfl (fun b0 => ?_)
    refine L_v rfl rfl rfl (V_assign rfl rfl) ?_
    refine L_v rfl rfl rfl (V_assign rfl rfl) ?_
    refine L_nil ?_
    change J _ _ _ _
    refine J_seq ?_
    refine J_region ?_
    refine L_v rfl rfl rfl (V_build (vs := []) rfl rfl bdR0) ?_
    refine L_box rfl rfl rfl rfl rfl (fun b1 => ?_)
    refine L_v rfl rfl rfl (V_assign rfl rfl) ?_
    refine L_nil ?_
    change J _ _ _ _
    refine J_seq ?_
    refine J_region ?_
    refine L_v rfl rfl rfl (V_move rfl rfl) ?_
    refine L_v rfl rfl rfl (V_loadW 0 rfl rfl rfl Try.underlying27 rfl (szd sz27h rfl)) ?_
    refine L_callRef (m1 := [(b0, row 27 (sgV x))]) (m := RM b1 (.ok []) (none, nilB)) (Ms := RM b1 (.error k)) (C := RC (.error k)) (val := .tuple #[]) rfl rfl rfl rfl rfl rfl tx40h rfl (fun w1 hw => (by have h9 := rsig_w b1 (.ok []) (none, nilB) x w1 hw.memM ⟨rfl, rfl⟩ (by show 0 + _ ≤ _; omega); rw [then2_nil', hE] at h9; exact h9)) (fun z1 hC1 => ?_)
    refine L_nil ?_
    change J _ _ _ _
    refine J_seq ?_
    refine J_region ?_
    refine L_v rfl rfl rfl (V_move rfl rfl) ?_
    refine L_callV rfl rfl rfl rfl rfl rfl tx41h (fun w1 hw => done_err b1 z1.2 k w1 (hw.at (i := 1) rfl) hC1) ?_
    refine L_v rfl rfl rfl (V_extract rfl rfl rfl) ?_
    refine L_v rfl rfl rfl (V_extract rfl rfl rfl) ?_
    refine L_v rfl rfl rfl (V_assign rfl rfl) ?_
    refine L_v rfl rfl rfl (V_assign rfl rfl) ?_
    refine L_nil ?_
    change J _ _ _ _
    refine J_ret ?_
    change Kret _ _ _ Exit.ret _
    refine ret2 rfl rfl (RV_t rfl) (RV_t rfl) ?_
    exact fun w' h => ⟨h.fr, rfl⟩
  ·
    refine J_seq ?_
    refine J_region ?_
    refine L_box rfl rfl rfl rfl rfl (fun b0 => ?_)
    refine L_v rfl rfl rfl (V_assign rfl rfl) ?_
    refine L_v rfl rfl rfl (V_assign rfl rfl) ?_
    refine L_nil ?_
    change J _ _ _ _
    refine J_seq ?_
    refine J_region ?_
    refine L_v rfl rfl rfl (V_build (vs := []) rfl rfl bdR0) ?_
    refine L_box rfl rfl rfl rfl rfl (fun b1 => ?_)
    refine L_v rfl rfl rfl (V_assign rfl rfl) ?_
    refine L_nil ?_
    change J _ _ _ _
    refine J_seq ?_
    refine J_region ?_
    refine L_v rfl rfl rfl (V_move rfl rfl) ?_
    refine L_v rfl rfl rfl (V_loadW 0 rfl rfl rfl Try.underlying27 rfl (szd sz27h rfl)) ?_
    refine L_callRef (m1 := [(b0, row 27 (sgV x))]) (m := RM b1 (.ok []) (none, nilB)) (Ms := RM b1 (.ok M)) (C := RC (.ok M)) (val := .tuple #[]) rfl rfl rfl rfl rfl rfl tx40h rfl (fun w1 hw => (by have h9 := rsig_w b1 (.ok []) (none, nilB) x w1 hw.memM ⟨rfl, rfl⟩ (by show 0 + _ ≤ _; omega); rw [then2_nil', hE] at h9; exact h9)) (fun z1 hC1 => ?_)
    refine L_nil ?_
    change J _ _ _ _
    refine J_seq ?_
    refine J_region ?_
    refine L_v rfl rfl rfl (V_move rfl rfl) ?_
    refine L_callV rfl rfl rfl rfl rfl rfl tx41h (fun w1 hw => done_ok b1 _ w1 (hw.at (i := 1) rfl)) ?_
    refine L_v rfl rfl rfl (V_extract rfl rfl rfl) ?_
    refine L_v rfl rfl rfl (V_extract rfl rfl rfl) ?_
    refine L_v rfl rfl rfl (V_assign rfl rfl) ?_
    refine L_v rfl rfl rfl (V_assign rfl rfl) ?_
    refine L_nil ?_
    change J _ _ _ _
    refine J_ret ?_
    change Kret _ _ _ Exit.ret _
    refine ret2 rfl rfl (RV_t rfl) (RV_t rfl) ?_
    exact fun w' h => ⟨h.fr, _, _, _, rfl, own_sl (m1 := [(b0, row 27 (sgV x)), (b1, _)]) h hC1, hC1.le, own_new h rfl (fun p hp => List.mem_append_right _ (List.mem_cons_of_mem _ hp)) hC1⟩

theorem rputcommand_w (x : Cmd) (w : World) (hsz : 65545 * (7) ≤ 1099511627776) :
    Calls Try.prog 15 #[.agg (cmdV x).toArray] w fun e w' => PutR w (encTs (cmdC.tk x)) e w' := by
  refine calls_of (args := [.agg (cmdV x).toArray]) ([]) ([]) ([]) Try.func15 rfl rfl (okW_facts (fun f hf => by cases hf)) ?_
  rcases hE : encTs (cmdC.tk x) with k | M
  ·
    refine J_seq ?_
    refine J_region ?_
    refine L_box rfl rfl rfl rfl rfl (fun b0 => ?_)
    refine L_v rfl rfl rfl (V_assign rfl rfl) ?_
    refine L_v rfl rfl rfl (V_assign rfl rfl) ?_
    refine L_nil ?_
    change J _ _ _ _
    refine J_seq ?_
    refine J_region ?_
    refine L_v rfl rfl rfl (V_build (vs := []) rfl rfl bdR0) ?_
    refine L_box rfl rfl rfl rfl rfl (fun b1 => ?_)
    refine L_v rfl rfl rfl (V_assign rfl rfl) ?_
    refine L_nil ?_
    change J _ _ _ _
    refine J_seq ?_
    refine J_region ?_
    refine L_v rfl rfl rfl (V_move rfl rfl) ?_
    refine L_v rfl rfl rfl (V_loadW 0 rfl rfl rfl Try.underlying39 rfl (szd sz39h rfl)) ?_
    refine L_callRef (m1 := [(b0, row 39 (cmdV x))]) (m := RM b1 (.ok []) (none, nilB)) (Ms := RM b1 (.error k)) (C := RC (.error k)) (val := .tuple #[]) rfl rfl rfl rfl rfl rfl tx46h rfl (fun w1 hw => (by have h9 := rcmd_w b1 (.ok []) (none, nilB) x w1 hw.memM ⟨rfl, rfl⟩ (by show 0 + _ ≤ _; omega); rw [then2_nil', hE] at h9; exact h9)) (fun z1 hC1 => ?_)
    refine L_nil ?_
    change J _ _ _ _
    refine J_seq ?_
    refine J_region ?_
    refine L_v rfl rfl rfl (V_move rfl rfl) ?_
    refine L_callV rfl rfl rfl rfl rfl rfl tx41h (fun w1 hw => done_err b1 z1.2 k w1 (hw.at (i := 1) rfl) hC1) ?_
    refine L_v rfl rfl rfl (V_extract rfl rfl rfl) ?_
    refine L_v rfl rfl rfl (V_extract rfl rfl rfl) ?_
    refine L_v rfl rfl rfl (V_assign rfl rfl) ?_
    refine L_v rfl rfl rfl (V_assign rfl rfl) ?_
    refine L_nil ?_
    change J _ _ _ _
    refine J_ret ?_
    change Kret _ _ _ Exit.ret _
    refine ret2 rfl rfl (RV_t rfl) (RV_t rfl) ?_
    exact fun w' h => ⟨h.fr, rfl⟩
  ·
    refine J_seq ?_
    refine J_region ?_
    refine L_box rfl rfl rfl rfl rfl (fun b0 => ?_)
    refine L_v rfl rfl rfl (V_assign rfl rfl) ?_
    refine L_v rfl rfl rfl (V_assign rfl rfl) ?_
    refine L_nil ?_
    change J _ _ _ _
    refine J_seq ?_
    refine J_region ?_
    refine L_v rfl rfl rfl (V_build (vs := []) rfl rfl bdR0) ?_
    refine L_box rfl rfl rfl rfl rfl (fun b1 => ?_)
    refine L_v rfl rfl rfl (V_assign rfl rfl) ?_
    refine L_nil ?_
    change J _ _ _ _
    refine J_seq ?_
    refine J_region ?_
    refine L_v rfl rfl rfl (V_move rfl rfl) ?_
    refine L_v rfl rfl rfl (V_loadW 0 rfl rfl rfl Try.underlying39 rfl (szd sz39h rfl)) ?_
    refine L_callRef (m1 := [(b0, row 39 (cmdV x))]) (m := RM b1 (.ok []) (none, nilB)) (Ms := RM b1 (.ok M)) (C := RC (.ok M)) (val := .tuple #[]) rfl rfl rfl rfl rfl rfl tx46h rfl (fun w1 hw => (by have h9 := rcmd_w b1 (.ok []) (none, nilB) x w1 hw.memM ⟨rfl, rfl⟩ (by show 0 + _ ≤ _; omega); rw [then2_nil', hE] at h9; exact h9)) (fun z1 hC1 => ?_)
    refine L_nil ?_
    change J _ _ _ _
    refine J_seq ?_
    refine J_region ?_
    refine L_v rfl rfl rfl (V_move rfl rfl) ?_
    refine L_callV rfl rfl rfl rfl rfl rfl tx41h (fun w1 hw => done_ok b1 _ w1 (hw.at (i := 1) rfl)) ?_
    refine L_v rfl rfl rfl (V_extract rfl rfl rfl) ?_
    refine L_v rfl rfl rfl (V_extract rfl rfl rfl) ?_
    refine L_v rfl rfl rfl (V_assign rfl rfl) ?_
    refine L_v rfl rfl rfl (V_assign rfl rfl) ?_
    refine L_nil ?_
    change J _ _ _ _
    refine J_ret ?_
    change Kret _ _ _ Exit.ret _
    refine ret2 rfl rfl (RV_t rfl) (RV_t rfl) ?_
    exact fun w' h => ⟨h.fr, _, _, _, rfl, own_sl (m1 := [(b0, row 39 (cmdV x)), (b1, _)]) h hC1, hC1.le, own_new h rfl (fun p hp => List.mem_append_right _ (List.mem_cons_of_mem _ hp)) hC1⟩

theorem rputentry_w (v1 v2 : Value) (x : En) (w : World) (hdf : ∀ f ∈ clF v1 v2 x.2.2.2.2, f.p w ∧ ∀ k, f.fp k → k < w.heap.size) (hsz : 65545 * (12 + x.2.2.2.2.1.length + x.2.2.2.2.2.length) ≤ 1099511627776) :
    Calls Try.prog 20 #[.agg (enV x v1 v2).toArray] w fun e w' => PutR w (encTs (enC.tk x)) e w' := by
  refine calls_of (args := [.agg (enV x v1 v2).toArray]) ([]) ([]) (clF v1 v2 x.2.2.2.2) Try.func20 rfl rfl (okW_facts hdf) ?_
  rcases hE : encTs (enC.tk x) with k | M
  ·
    refine J_seq ?_
    refine J_region ?_
    refine L_box rfl rfl rfl rfl rfl (fun b0 => ?_)
    refine L_v rfl rfl rfl (V_assign rfl rfl) ?_
    refine L_v rfl rfl rfl (V_assign rfl rfl) ?_
    refine L_nil ?_
    change J _ _ _ _
    refine J_seq ?_
    refine J_region ?_
    refine L_v rfl rfl rfl (V_build (vs := []) rfl rfl bdR0) ?_
    refine L_box rfl rfl rfl rfl rfl (fun b1 => ?_)
    refine L_v rfl rfl rfl (V_assign rfl rfl) ?_
    refine L_nil ?_
    change J _ _ _ _
    refine J_seq ?_
    refine J_region ?_
    refine L_v rfl rfl rfl (V_move rfl rfl) ?_
    refine L_v rfl rfl rfl (V_loadW 0 rfl rfl rfl Try.underlying49 rfl (szd sz49h rfl)) ?_
    refine L_callRef (m1 := [(b0, row 49 (enV x v1 v2))]) (m := RM b1 (.ok []) (none, nilB)) (Ms := RM b1 (.error k)) (C := RC (.error k)) (val := .tuple #[]) rfl rfl rfl rfl rfl rfl tx51h rfl (fun w1 hw => (by have h9 := rent_w b1 (.ok []) (none, nilB) v1 v2 x w1 hw.memM ⟨rfl, rfl⟩ hw.factsM (by show 0 + _ ≤ _; omega); rw [then2_nil', hE] at h9; exact h9)) (fun z1 hC1 => ?_)
    refine L_nil ?_
    change J _ _ _ _
    refine J_seq ?_
    refine J_region ?_
    refine L_v rfl rfl rfl (V_move rfl rfl) ?_
    refine L_callV rfl rfl rfl rfl rfl rfl tx41h (fun w1 hw => done_err b1 z1.2 k w1 (hw.at (i := 1) rfl) hC1) ?_
    refine L_v rfl rfl rfl (V_extract rfl rfl rfl) ?_
    refine L_v rfl rfl rfl (V_extract rfl rfl rfl) ?_
    refine L_v rfl rfl rfl (V_assign rfl rfl) ?_
    refine L_v rfl rfl rfl (V_assign rfl rfl) ?_
    refine L_nil ?_
    change J _ _ _ _
    refine J_ret ?_
    change Kret _ _ _ Exit.ret _
    refine ret2 rfl rfl (RV_t rfl) (RV_t rfl) ?_
    exact fun w' h => ⟨h.fr, rfl⟩
  ·
    refine J_seq ?_
    refine J_region ?_
    refine L_box rfl rfl rfl rfl rfl (fun b0 => ?_)
    refine L_v rfl rfl rfl (V_assign rfl rfl) ?_
    refine L_v rfl rfl rfl (V_assign rfl rfl) ?_
    refine L_nil ?_
    change J _ _ _ _
    refine J_seq ?_
    refine J_region ?_
    refine L_v rfl rfl rfl (V_build (vs := []) rfl rfl bdR0) ?_
    refine L_box rfl rfl rfl rfl rfl (fun b1 => ?_)
    refine L_v rfl rfl rfl (V_assign rfl rfl) ?_
    refine L_nil ?_
    change J _ _ _ _
    refine J_seq ?_
    refine J_region ?_
    refine L_v rfl rfl rfl (V_move rfl rfl) ?_
    refine L_v rfl rfl rfl (V_loadW 0 rfl rfl rfl Try.underlying49 rfl (szd sz49h rfl)) ?_
    refine L_callRef (m1 := [(b0, row 49 (enV x v1 v2))]) (m := RM b1 (.ok []) (none, nilB)) (Ms := RM b1 (.ok M)) (C := RC (.ok M)) (val := .tuple #[]) rfl rfl rfl rfl rfl rfl tx51h rfl (fun w1 hw => (by have h9 := rent_w b1 (.ok []) (none, nilB) v1 v2 x w1 hw.memM ⟨rfl, rfl⟩ hw.factsM (by show 0 + _ ≤ _; omega); rw [then2_nil', hE] at h9; exact h9)) (fun z1 hC1 => ?_)
    refine L_nil ?_
    change J _ _ _ _
    refine J_seq ?_
    refine J_region ?_
    refine L_v rfl rfl rfl (V_move rfl rfl) ?_
    refine L_callV rfl rfl rfl rfl rfl rfl tx41h (fun w1 hw => done_ok b1 _ w1 (hw.at (i := 1) rfl)) ?_
    refine L_v rfl rfl rfl (V_extract rfl rfl rfl) ?_
    refine L_v rfl rfl rfl (V_extract rfl rfl rfl) ?_
    refine L_v rfl rfl rfl (V_assign rfl rfl) ?_
    refine L_v rfl rfl rfl (V_assign rfl rfl) ?_
    refine L_nil ?_
    change J _ _ _ _
    refine J_ret ?_
    change Kret _ _ _ Exit.ret _
    refine ret2 rfl rfl (RV_t rfl) (RV_t rfl) ?_
    exact fun w' h => ⟨h.fr, _, _, _, rfl, own_sl (m1 := [(b0, row 49 (enV x v1 v2)), (b1, _)]) h hC1, hC1.le, own_new h rfl (fun p hp => List.mem_append_right _ (List.mem_cons_of_mem _ hp)) hC1⟩

theorem rputrecord_w (v1 v2 v3 v4 : Value) (x : Rec) (w : World) (hdf : ∀ f ∈ (clF v1 v2 x.2.2.2.1.2.2.2.2 ++ clF v3 v4 x.2.2.2.2.2.1.2.2.1), f.p w ∧ ∀ k, f.fp k → k < w.heap.size) (hsz : 65545 * (25 + x.2.2.2.1.2.2.2.2.1.length + x.2.2.2.1.2.2.2.2.2.length + x.2.2.2.2.2.1.2.2.1.1.length + x.2.2.2.2.2.1.2.2.1.2.length) ≤ 1099511627776) :
    Calls Try.prog 32 #[.agg (recV x v1 v2 v3 v4).toArray] w fun e w' => PutR w (encTs (recC.tk x)) e w' := by
  refine calls_of (args := [.agg (recV x v1 v2 v3 v4).toArray]) ([]) ([]) ((clF v1 v2 x.2.2.2.1.2.2.2.2 ++ clF v3 v4 x.2.2.2.2.2.1.2.2.1)) Try.func32 rfl rfl (okW_facts hdf) ?_
  rcases hE : encTs (recC.tk x) with k | M
  ·
    refine J_seq ?_
    refine J_region ?_
    refine L_box rfl rfl rfl rfl rfl (fun b0 => ?_)
    refine L_v rfl rfl rfl (V_assign rfl rfl) ?_
    refine L_v rfl rfl rfl (V_assign rfl rfl) ?_
    refine L_nil ?_
    change J _ _ _ _
    refine J_seq ?_
    refine J_region ?_
    refine L_v rfl rfl rfl (V_build (vs := []) rfl rfl bdR0) ?_
    refine L_box rfl rfl rfl rfl rfl (fun b1 => ?_)
    refine L_v rfl rfl rfl (V_assign rfl rfl) ?_
    refine L_nil ?_
    change J _ _ _ _
    refine J_seq ?_
    refine J_region ?_
    refine L_v rfl rfl rfl (V_move rfl rfl) ?_
    refine L_v rfl rfl rfl (V_loadW 0 rfl rfl rfl Try.underlying71 rfl (szd sz71h rfl)) ?_
    refine L_callRef (m1 := [(b0, row 71 (recV x v1 v2 v3 v4))]) (m := RM b1 (.ok []) (none, nilB)) (Ms := RM b1 (.error k)) (C := RC (.error k)) (val := .tuple #[]) rfl rfl rfl rfl rfl rfl tx63h rfl (fun w1 hw => (by have h9 := rrec_w b1 (.ok []) (none, nilB) v1 v2 v3 v4 x w1 hw.memM ⟨rfl, rfl⟩ hw.factsM (by show 0 + _ ≤ _; omega); rw [then2_nil', hE] at h9; exact h9)) (fun z1 hC1 => ?_)
    refine L_nil ?_
    change J _ _ _ _
    refine J_seq ?_
    refine J_region ?_
    refine L_v rfl rfl rfl (V_move rfl rfl) ?_
    refine L_callV rfl rfl rfl rfl rfl rfl tx41h (fun w1 hw => done_err b1 z1.2 k w1 (hw.at (i := 1) rfl) hC1) ?_
    refine L_v rfl rfl rfl (V_extract rfl rfl rfl) ?_
    refine L_v rfl rfl rfl (V_extract rfl rfl rfl) ?_
    refine L_v rfl rfl rfl (V_assign rfl rfl) ?_
    refine L_v rfl rfl rfl (V_assign rfl rfl) ?_
    refine L_nil ?_
    change J _ _ _ _
    refine J_ret ?_
    change Kret _ _ _ Exit.ret _
    refine ret2 rfl rfl (RV_t rfl) (RV_t rfl) ?_
    exact fun w' h => ⟨h.fr, rfl⟩
  ·
    refine J_seq ?_
    refine J_region ?_
    refine L_box rfl rfl rfl rfl rfl (fun b0 => ?_)
    refine L_v rfl rfl rfl (V_assign rfl rfl) ?_
    refine L_v rfl rfl rfl (V_assign rfl rfl) ?_
    refine L_nil ?_
    change J _ _ _ _
    refine J_seq ?_
    refine J_region ?_
    refine L_v rfl rfl rfl (V_build (vs := []) rfl rfl bdR0) ?_
    refine L_box rfl rfl rfl rfl rfl (fun b1 => ?_)
    refine L_v rfl rfl rfl (V_assign rfl rfl) ?_
    refine L_nil ?_
    change J _ _ _ _
    refine J_seq ?_
    refine J_region ?_
    refine L_v rfl rfl rfl (V_move rfl rfl) ?_
    refine L_v rfl rfl rfl (V_loadW 0 rfl rfl rfl Try.underlying71 rfl (szd sz71h rfl)) ?_
    refine L_callRef (m1 := [(b0, row 71 (recV x v1 v2 v3 v4))]) (m := RM b1 (.ok []) (none, nilB)) (Ms := RM b1 (.ok M)) (C := RC (.ok M)) (val := .tuple #[]) rfl rfl rfl rfl rfl rfl tx63h rfl (fun w1 hw => (by have h9 := rrec_w b1 (.ok []) (none, nilB) v1 v2 v3 v4 x w1 hw.memM ⟨rfl, rfl⟩ hw.factsM (by show 0 + _ ≤ _; omega); rw [then2_nil', hE] at h9; exact h9)) (fun z1 hC1 => ?_)
    refine L_nil ?_
    change J _ _ _ _
    refine J_seq ?_
    refine J_region ?_
    refine L_v rfl rfl rfl (V_move rfl rfl) ?_
    refine L_callV rfl rfl rfl rfl rfl rfl tx41h (fun w1 hw => done_ok b1 _ w1 (hw.at (i := 1) rfl)) ?_
    refine L_v rfl rfl rfl (V_extract rfl rfl rfl) ?_
    refine L_v rfl rfl rfl (V_extract rfl rfl rfl) ?_
    refine L_v rfl rfl rfl (V_assign rfl rfl) ?_
    refine L_v rfl rfl rfl (V_assign rfl rfl) ?_
    refine L_nil ?_
    change J _ _ _ _
    refine J_ret ?_
    change Kret _ _ _ Exit.ret _
    refine ret2 rfl rfl (RV_t rfl) (RV_t rfl) ?_
    exact fun w' h => ⟨h.fr, _, _, _, rfl, own_sl (m1 := [(b0, row 71 (recV x v1 v2 v3 v4)), (b1, _)]) h hC1, hC1.le, own_new h rfl (fun p hp => List.mem_append_right _ (List.mem_cons_of_mem _ hp)) hC1⟩

end Go.Proofs.Ytfgcfjojpakpjaa
