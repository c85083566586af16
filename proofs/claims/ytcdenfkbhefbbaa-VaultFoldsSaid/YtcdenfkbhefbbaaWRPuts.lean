/- What the reference's functions that lay a message hand back. -/
import Derived.Test.YtcdenfkbhefbbaaWRef2
set_option linter.unusedVariables false
set_option linter.unusedSimpArgs false
set_option maxRecDepth 100000
namespace Go.Proofs.Ytcdenfkbhefbbaa
open Go.Sx
theorem then2_nil' (x : Except Int (List Int)) : then2 (.ok []) x = x := by cases x <;> rfl
theorem own_new {cx : Cx} {m : Mem} {fs : List Fact} {w : World} {q : OwnR} {M : List Int} (h : OkW cx m fs w) (hm : cx.mods = []) (hs : ∀ p ∈ ownM 5 q (dg M), p ∈ m) (hq : OwnC 1 q M.length (dg M)) : ∀ k, (factB (ownV q M.length) M).fp k → cx.w0.heap.size ≤ k := by
  rintro k ⟨hne, off, n, c, e⟩
  cases q with
  | none => exact absurd (List.eq_nil_of_length_eq_zero hq.1) hne
  | some q =>
    obtain ⟨g, c0, r⟩ := q
    simp only [ownV, oA, oC, Value.slice.injEq, Option.some.injEq, Addr.mk.injEq] at e
    obtain ⟨⟨rfl, _⟩, _⟩ := e
    have hp := hs (g, row 5 (dg M ++ r)) (by simp [ownM])
    rcases h.may g (List.mem_map.2 ⟨_, hp, rfl⟩) with h1 | h1
    · exact h1
    · rw [hm] at h1
      cases h1
theorem bdR0 (w : World) : (Instr.build 95 ([] : List (Nat × Value)).toArray).run Try.prog w = .ok (.agg [nilB, vi 0].toArray) w := by kernel_rfl
theorem own_sl {cx : Cx} {m1 : Mem} {fs : List Fact} {w : World} {q : OwnR} {M : List Int} (h : OkW cx (m1 ++ ownM 5 q (dg M)) fs w) (hq : OwnC 1 q M.length (dg M)) : SlB w (ownV q M.length) M :=
  SlB.ofN (m1 := m1) (m2 := []) (e := 5) (by rw [List.append_nil]; exact h) hq rfl
theorem sz45h : (Try.prog.info? 45).map (·.size) = some 149 := by kernel_rfl
theorem sz48h : (Try.prog.info? 48).map (·.size) = some 1 := by kernel_rfl
theorem sz65h : (Try.prog.info? 65).map (·.size) = some 1 := by kernel_rfl
theorem tx51h : Txt Try.prog 51 := txt_of Try.func51 rfl (by kernel_rfl)
theorem tx52h : Txt Try.prog 52 := txt_of Try.func52 rfl (by kernel_rfl)

theorem done_err (b : Nat) (v : Value) (k : Int) (w : World) (hb : w.heap[b]? = some (row 95 [v, vi k])) (hk : k ≠ 0) :
    Calls Try.prog 52 #[.pointer (some ⟨b, 0, none⟩)] w fun e w' => e = .returned (.tuple #[.slice none 0 0, vi k]) ∧ Fr [] w w' := by
  refine calls_of (args := [.pointer (some ⟨b, 0, none⟩)]) ([]) ([]) ([]) Try.func52 rfl rfl (okW0 _ _ _ _) ?_
  refine J_seq ?_
  refine J_region ?_
  refine L_v rfl rfl rfl (V_assign rfl rfl) ?_
  refine L_v rfl rfl rfl (V_assign rfl rfl) ?_
  refine L_nil ?_
  change J _ _ _ _
  refine J_seq ?_
  refine J_seq ?_
  refine J_region ?_
  refine L_v rfl rfl rfl (V_move rfl rfl) ?_
  refine L_v rfl rfl rfl (V_nilCheck rfl rfl) ?_
  refine L_v rfl rfl rfl (V_fieldAddr rfl rfl Try.underlying95 rfl sz48h rfl) ?_
  refine L_v rfl rfl rfl (V_loadF rfl rfl Try.underlying48 rfl (fun w hw => OkW.later hw rfl hb) rfl) ?_
  refine L_v rfl rfl rfl (V_neq rfl rfl rfl (decide_eq_true hk)) ?_
  refine L_nil ?_
  change J _ _ _ _
  refine J_true rfl ?_
  refine J_seq ?_
  refine J_regionQ rfl (by kernel_rfl) ?_
  refine LQ_v rfl rfl rfl (V_move rfl rfl) ?_
  refine LQ_v rfl rfl rfl (V_nilCheck rfl rfl) ?_
  refine LQ_v rfl rfl rfl (V_fieldAddr rfl rfl Try.underlying95 rfl sz48h rfl) ?_
  refine LQ_v rfl rfl rfl (V_loadF rfl rfl Try.underlying48 rfl (fun w hw => OkW.later hw rfl hb) rfl) ?_
  refine LQ_v rfl rfl rfl (V_assign rfl rfl) ?_
  refine LQ_v rfl rfl rfl (V_assign rfl rfl) ?_
  refine LQ_nil ?_
  change J _ _ _ _
  refine J_ret ?_
  change Kret _ _ _ Exit.ret _
  refine ret2 rfl rfl (RV_t rfl) (RV_t rfl) ?_
  exact fun w' h => ⟨rfl, h.fr⟩

theorem done_ok (b : Nat) (v : Value) (w : World) (hb : w.heap[b]? = some (row 95 [v, vi 0])) :
    Calls Try.prog 52 #[.pointer (some ⟨b, 0, none⟩)] w fun e w' => e = .returned (.tuple #[v, vi 0]) ∧ Fr [] w w' := by
  refine calls_of (args := [.pointer (some ⟨b, 0, none⟩)]) ([]) ([]) ([]) Try.func52 rfl rfl (okW0 _ _ _ _) ?_
  refine J_seq ?_
  refine J_region ?_
  refine L_v rfl rfl rfl (V_assign rfl rfl) ?_
  refine L_v rfl rfl rfl (V_assign rfl rfl) ?_
  refine L_nil ?_
  change J _ _ _ _
  refine J_seq ?_
  refine J_seq ?_
  refine J_region ?_
  refine L_v rfl rfl rfl (V_move rfl rfl) ?_
  refine L_v rfl rfl rfl (V_nilCheck rfl rfl) ?_
  refine L_v rfl rfl rfl (V_fieldAddr rfl rfl Try.underlying95 rfl sz48h rfl) ?_
  refine L_v rfl rfl rfl (V_loadF rfl rfl Try.underlying48 rfl (fun w hw => OkW.later hw rfl hb) rfl) ?_
  refine L_v rfl rfl rfl (V_neq rfl rfl rfl rfl) ?_
  refine L_nil ?_
  change J _ _ _ _
  refine J_false rfl ?_
  refine J_skip ?_
  change J _ _ _ _
  refine J_seq ?_
  refine J_region ?_
  refine L_v rfl rfl rfl (V_move rfl rfl) ?_
  refine L_v rfl rfl rfl (V_nilCheck rfl rfl) ?_
  refine L_v rfl rfl rfl (V_fieldAddr rfl rfl Try.underlying95 rfl sz65h rfl) ?_
  refine L_v rfl rfl rfl (V_loadF rfl rfl Try.underlying65 rfl (fun w hw => OkW.later hw rfl hb) rfl) ?_
  refine L_v rfl rfl rfl (V_assign rfl rfl) ?_
  refine L_v rfl rfl rfl (V_assign rfl rfl) ?_
  refine L_nil ?_
  change J _ _ _ _
  refine J_ret ?_
  change Kret _ _ _ Exit.ret _
  refine ret2 rfl rfl (RV_t rfl) (RV_t rfl) ?_
  exact fun w' h => ⟨rfl, h.fr⟩

theorem rputrecord_w (v1 v2 v3 v4 : Value) (x : Rec) (w : World) (hdf : ∀ f ∈ (clF v1 v2 x.2.2.2.1.2.2.2.2 ++ clF v3 v4 x.2.2.2.2.2.1.2.2.1), f.p w ∧ ∀ k, f.fp k → k < w.heap.size) (hsz : 65545 * (16410) ≤ 1099511627776) :
    Calls Try.prog 32 #[.agg (recV x v1 v2 v3 v4).toArray] w fun e w' => PutR w (encTs (recC.tk x)) e w' := by
  refine calls_of (args := [.agg (recV x v1 v2 v3 v4).toArray]) ([]) ([]) ((clF v1 v2 x.2.2.2.1.2.2.2.2 ++ clF v3 v4 x.2.2.2.2.2.1.2.2.1)) Try.func32 rfl rfl (okW_facts hdf) ?_
  rcases hE : encTs (recC.tk x) with k | M
  ·
    refine J_seq ?_
    refine J_region ?_
    refine L_box rfl rfl rfl rfl rfl (fun b0 => ?_)
    refine L_v rfl rfl rfl (V_assign rfl rfl) ?_
    refine L_v rfl rfl rfl (V_assign rfl rfl) ?_
    refine L_nil ?_
    change J _ _ _ _
    refine J_seq ?_
    refine J_region ?_
    refine L_v rfl rfl rfl (V_build (vs := []) rfl rfl bdR0) ?_
    refine L_box rfl rfl rfl rfl rfl (fun b1 => ?_)
    refine L_v rfl rfl rfl (V_assign rfl rfl) ?_
    refine L_nil ?_
    change J _ _ _ _
    refine J_seq ?_
    refine J_region ?_
    refine L_v rfl rfl rfl (V_move rfl rfl) ?_
    refine L_v rfl rfl rfl (V_loadW 0 rfl rfl rfl Try.underlying45 rfl (szd sz45h rfl)) ?_
    refine L_callRef (m1 := [(b0, row 45 (recV x v1 v2 v3 v4))]) (m := RM b1 (.ok []) (none, nilB)) (Ms := RM b1 (.error k)) (C := RC (.error k)) (val := .tuple #[]) rfl rfl rfl rfl rfl rfl tx51h rfl (fun w1 hw => (by have h9 := rrec_w b1 (.ok []) (none, nilB) v1 v2 v3 v4 x w1 hw.memM ⟨rfl, rfl⟩ hw.factsM (by show 0 + _ ≤ _; omega); rw [then2_nil', hE] at h9; exact h9)) (fun z1 hC1 => ?_)
    refine L_nil ?_
    change J _ _ _ _
    refine J_seq ?_
    refine J_region ?_
    refine L_v rfl rfl rfl (V_move rfl rfl) ?_
    refine L_callV rfl rfl rfl rfl rfl rfl tx52h (fun w1 hw => done_err b1 z1.2 k w1 (hw.at (i := 1) rfl) hC1) ?_
    refine L_v rfl rfl rfl (V_extract rfl rfl rfl) ?_
    refine L_v rfl rfl rfl (V_extract rfl rfl rfl) ?_
    refine L_v rfl rfl rfl (V_assign rfl rfl) ?_
    refine L_v rfl rfl rfl (V_assign rfl rfl) ?_
    refine L_nil ?_
    change J _ _ _ _
    refine J_ret ?_
    change Kret _ _ _ Exit.ret _
    refine ret2 rfl rfl (RV_t rfl) (RV_t rfl) ?_
    exact fun w' h => ⟨h.fr, rfl⟩
  ·
    refine J_seq ?_
    refine J_region ?_
    refine L_box rfl rfl rfl rfl rfl (fun b0 => ?_)
    refine L_v rfl rfl rfl (V_assign rfl rfl) ?_
    refine L_v rfl rfl rfl (V_assign rfl rfl) ?_
    refine L_nil ?_
    change J _ _ _ _
    refine J_seq ?_
    refine J_region ?_
    refine L_v rfl rfl rfl (V_build (vs := []) rfl rfl bdR0) ?_
    refine L_box rfl rfl rfl rfl rfl (fun b1 => ?_)
    refine L_v rfl rfl rfl (V_assign rfl rfl) ?_
    refine L_nil ?_
    change J _ _ _ _
    refine J_seq ?_
    refine J_region ?_
    refine L_v rfl rfl rfl (V_move rfl rfl) ?_
    refine L_v rfl rfl rfl (V_loadW 0 rfl rfl rfl Try.underlying45 rfl (szd sz45h rfl)) ?_
    refine L_callRef (m1 := [(b0, row 45 (recV x v1 v2 v3 v4))]) (m := RM b1 (.ok []) (none, nilB)) (Ms := RM b1 (.ok M)) (C := RC (.ok M)) (val := .tuple #[]) rfl rfl rfl rfl rfl rfl tx51h rfl (fun w1 hw => (by have h9 := rrec_w b1 (.ok []) (none, nilB) v1 v2 v3 v4 x w1 hw.memM ⟨rfl, rfl⟩ hw.factsM (by show 0 + _ ≤ _; omega); rw [then2_nil', hE] at h9; exact h9)) (fun z1 hC1 => ?_)
    refine L_nil ?_
    change J _ _ _ _
    refine J_seq ?_
    refine J_region ?_
    refine L_v rfl rfl rfl (V_move rfl rfl) ?_
    refine L_callV rfl rfl rfl rfl rfl rfl tx52h (fun w1 hw => done_ok b1 _ w1 (hw.at (i := 1) rfl)) ?_
    refine L_v rfl rfl rfl (V_extract rfl rfl rfl) ?_
    refine L_v rfl rfl rfl (V_extract rfl rfl rfl) ?_
    refine L_v rfl rfl rfl (V_assign rfl rfl) ?_
    refine L_v rfl rfl rfl (V_assign rfl rfl) ?_
    refine L_nil ?_
    change J _ _ _ _
    refine J_ret ?_
    change Kret _ _ _ Exit.ret _
    refine ret2 rfl rfl (RV_t rfl) (RV_t rfl) ?_
    exact fun w' h => ⟨h.fr, _, _, _, rfl, own_sl (m1 := [(b0, row 45 (recV x v1 v2 v3 v4)), (b1, _)]) h hC1, hC1.le, own_new h rfl (fun p hp => List.mem_append_right _ (List.mem_cons_of_mem _ hp)) hC1⟩

end Go.Proofs.Ytcdenfkbhefbbaa
