/- The law PathWith: whatever its arguments are, the call returns true and its arguments read as they did, where the listed tables hold what the program's text lays in them: the row, and its card, which ties that to the text. -/
import Derived.Test.YtokpnjbfbkphiaaDoorWPathWith
import Derived.Test.YtokpnjbfbkphiaaDoorSxOpen
import Derived.Test.YtokpnjbfbkphiaaDoorCards
import Derived.Test.YtokpnjbfbkphiaaDoorTie
import Derived.WalkKit
import Derived.ProofKit
import Derived.OpenShut
import Derived.ShutString
import Derived.Below
import Derived.Deep.DeepHandedRow
import Derived.Lib.LaidTab
import Derived.Stop.LaidErr
set_option linter.unusedVariables false
set_option linter.unusedSimpArgs false
namespace Go.Proofs.YtokpnjbfbkphiaaDoor
open Go.ChangeShapes Go.WideShapes Go.ChangeAt Go.RowKit Go.Sx
open Go.ChangeMaps (open_string shut_string)

theorem pathWith_own : ownKnob Tryd.prog.godebug = none := by kernel_rfl
theorem pathWith_laidOut : laidOutB Tryd.prog = true := by kernel_rfl
theorem pathWith_len : KTi.length = 64 := by decide
theorem pathWith_g0 : Tryd.prog.globalNamed "tabellion/sha.keys" = some 1 := by kernel_rfl
theorem pathWith_t0 : (Tryd.prog.globals[1]?).map (·.type) = some 51 := by kernel_rfl
theorem pathWith_tab0 {W : World} (h : laidMetH Tryd.prog Rows.pathWithRow.laid W) : TabK KT 1 W := fun i hi => by
  have h1 : Lib.TabIs Tryd.prog W "tabellion/sha.keys" .u32 KTi := Lib.tabIs_of_head pathWith_g0 pathWith_t0 Tryd.underlying51 Tryd.underlying42 (by kernel_rfl) (by kernel_rfl) h
  have h2 := h1.cell pathWith_g0 i (by rw [pathWith_len]; exact hi)
  rw [h2, KTi_eq i hi]
theorem pathWith_g1 : Tryd.prog.globalNamed "tabellion/tabellionref02.key" = some 0 := by kernel_rfl
theorem pathWith_t1 : (Tryd.prog.globals[0]?).map (·.type) = some 51 := by kernel_rfl
theorem pathWith_tab1 {W : World} (h : laidMetH Tryd.prog Rows.pathWithRow.laid W) : TabK KT 0 W := fun i hi => by
  have h1 : Lib.TabIs Tryd.prog W "tabellion/tabellionref02.key" .u32 KTi := Lib.tabIs_of_head pathWith_g1 pathWith_t1 Tryd.underlying51 Tryd.underlying42 (by kernel_rfl) (by kernel_rfl) (laidMet.tail h)
  have h2 := h1.cell pathWith_g1 i (by rw [pathWith_len]; exact hi)
  rw [h2, KTi_eq i hi]
set_option maxRecDepth 100000 in
theorem pathWith_contract (H : Type) (enc : TypeId × Value → H) (W : World) (base : Nat) (args : Array Value) (ds gs : List (DataW H)) (before : List MemPlace)
    (hval0 : ∀ (j : Nat) t v, Tryd.f3.params[j]? = some t → args[j]? = some v → Value.okWide Tryd.prog W .any base t v)
    (hW : DataW.Whole enc Tryd.prog Tryd.f3.params.toList Rows.pathWithSpec.vars false W args.toList ds gs before) (hL : laidMetH Tryd.prog Rows.pathWithRow.laid W) :
    Calls Tryd.prog 3 args W fun e W' => ∃ v, e = .returned v ∧ Rows.pathWithSpec.post enc Tryd.prog Tryd.f3 false true false false W args v W' := by
  have hval : ∀ (j : Nat) t v, Tryd.f3.params[j]? = some t → args[j]? = some v → Value.okWide Tryd.prog W .any base t v := hval0
  have hW' := hW
  obtain ⟨p, q, hA0, hV, rfl, hfz, hnd⟩ := hW
  have hA : DataW.TrodAll enc Tryd.prog W 0 (fun _ => true) true Tryd.f3.params.toList args.toList ds p := hA0
  rw [Tryd.params3] at hA hval
  obtain ⟨v0, vs0, d0, ds0, p0, q0, hargs, rfl, rfl, h0, r0⟩ := trodAll_cons hA
  obtain ⟨v1, vs1, d1, ds1, p1, q1, rfl, rfl, rfl, h1, r1⟩ := trodAll_cons r0
  obtain ⟨v2, vs2, d2, ds2, p2, q2, rfl, rfl, rfl, h2, r2⟩ := trodAll_cons r1
  obtain ⟨v3, vs3, d3, ds3, p3, q3, rfl, rfl, rfl, h3, r3⟩ := trodAll_cons r2
  obtain ⟨rfl, rfl, rfl⟩ := trodAll_nil r3
  obtain rfl : args = #[v0, v1, v2, v3] := by cases args; simp_all
  obtain ⟨rfl, rfl⟩ := trodVars_none hV
  have k0 := h0
  have lt0 : ∀ x ∈ p0, x.block < W.heap.size := by obtain ⟨m, hm⟩ := k0; exact DataW.trod_lt m _ _ _ hm
  have k1 := h1
  have lt1 : ∀ x ∈ p1, x.block < W.heap.size := by obtain ⟨m, hm⟩ := k1; exact DataW.trod_lt m _ _ _ hm
  have k2 := h2
  have lt2 : ∀ x ∈ p2, x.block < W.heap.size := by obtain ⟨m, hm⟩ := k2; exact DataW.trod_lt m _ _ _ hm
  have k3 := h3
  have lt3 : ∀ x ∈ p3, x.block < W.heap.size := by obtain ⟨m, hm⟩ := k3; exact DataW.trod_lt m _ _ _ hm
  obtain ⟨x0, rfl, lx0, bx0⟩ := open_dg Tryd.underlying23 Tryd.underlying5 ⟨by kernel_rfl, by kernel_rfl⟩ (hval 0 23 v0 rfl rfl) h0
  obtain ⟨x1, rfl, e1, f1, wx1⟩ := open_int Tryd.underlying3 (hval 1 3 v1 rfl rfl) h1
  obtain ⟨x2, rfl, e2, f2, wx2⟩ := open_int Tryd.underlying3 (hval 2 3 v2 rfl rfl) h2
  obtain ⟨x3, rfl, e3, f3, wx3⟩ := open_string Tryd.underlying9 (hval 3 9 v3 rfl rfl) h3
  clear hA0 hval0
  refine (PathWith_w x0 x1 x2 x3 W lx0 bx0 (pathWith_tab0 hL) (pathWith_tab1 hL)).mono fun e W' ⟨he, hfr⟩ => ?_
  have bel := hfr.below
  subst he
  exact ⟨_, rfl, _, _, _, [], _, [], hW', trodAll_mk1 (shut_bool Tryd.underlying4 _), (trodAll_cons_mk (Below.trod pathWith_laidOut (by kernel_rfl) (of_decide_eq_true (by kernel_rfl)) k0 bel lt0) (trodAll_cons_mk (Below.trod pathWith_laidOut (by kernel_rfl) (of_decide_eq_true (by kernel_rfl)) k1 bel lt1) (trodAll_cons_mk (Below.trod pathWith_laidOut (by kernel_rfl) (of_decide_eq_true (by kernel_rfl)) k2 bel lt2) (trodAll_cons_mk (Below.trod pathWith_laidOut (by kernel_rfl) (of_decide_eq_true (by kernel_rfl)) k3 bel lt3) trodAll_mk0)))), rfl, bel.frame _, fun h => by cases h⟩
noncomputable def pathWith_world (os : Os) : World :=
  { (World.holding Tryd.prog os ⟨#[], #[], []⟩) with heap := (((World.holding Tryd.prog os ⟨#[], #[], []⟩).heap.modify 1 fun
    | .cells _ t frozen => .cells (wl KT).toArray t frozen
    | o => o).modify 0 fun
    | .cells _ t frozen => .cells (wl KT).toArray t frozen
    | o => o) }
theorem pathWith_met (os : Os) : laidMet Tryd.prog Rows.pathWithRow.laid ((pathWith_world os).forCall (fun _ _ => 0) ⟨#[], #[.agg (Array.replicate 32 (.int .u8 0)), .int .i64 0, .int .i64 0, .string ⟨#[]⟩], []⟩).memory :=
  laidMet_of_run' 8 (by kernel_rfl) (by kernel_rfl)
theorem pathWith_reads (os : Os) {H : Type} (enc : TypeId × Value → H) : ∃ places, DataW.whole enc Tryd.prog ((pathWith_world os).forCall (fun _ _ => 0) ⟨#[], #[.agg (Array.replicate 32 (.int .u8 0)), .int .i64 0, .int .i64 0, .string ⟨#[]⟩], []⟩).memory Tryd.f3.params.toList Rows.pathWithSpec.vars false #[(.agg (Array.replicate 32 (.int .u8 0)) : Value), (.int .i64 0 : Value), (.int .i64 0 : Value), (.string ⟨#[]⟩ : Value)].toList 8 = some ([.agg (List.replicate 32 (.lit (.int .u8 0))), .lit (.int .i64 0), .lit (.int .i64 0), .lit (.string [])], [], places) :=
  ⟨[], by kernel_rfl⟩
set_option maxRecDepth 100000 in
theorem pathWith_lifted (os : Os) (started : os.Started) (H : Type) (enc : TypeId × Value → H) (F : Stop.Interp) :
    ReturnsInHanded {} Tryd.checked os 3 .any ((OpenSpec.ofChange Rows.pathWithSpec).preRow enc Tryd.prog Tryd.f3 Rows.pathWithRow.domain false Rows.pathWithRow.laid) (((OpenSpec.ofChange Rows.pathWithSpec).at F).post enc Tryd.prog Tryd.f3 false true false false) := by
  obtain ⟨places, hx⟩ := pathWith_reads os enc
  refine returnsInHanded_of_row (C := Tryd.checked) (s := OpenSpec.ofChange Rows.pathWithSpec) pathWith_own started (by kernel_rfl) Tryd.func3
    (witness_row_at (enc := enc) (C := Tryd.checked) false (pathWith_world os) #[.agg (Array.replicate 32 (.int .u8 0)), .int .i64 0, .int .i64 0, .string ⟨#[]⟩] rfl (by kernel_rfl) (by kernel_rfl) (by kernel_rfl)
      (OpenSpec.preRow_of_cond 8 hx (by kernel_rfl) (fun k hk => by cases hk) (by kernel_rfl) (pathWith_met os))) ?_
  intro W base args ds gs before hval hW _ _ _ hL _ _
  exact pathWith_contract H enc W base args ds gs before hval hW hL
theorem pathWith_said : Rows.PathWithSaid :=
  OpenClaim.holds_of_cond 3 Tryd.f3 rfl rfl rfl rfl rfl rfl rfl ⟨rfl, rfl, rfl, rfl, rfl⟩ rfl rfl rfl rfl rfl (by kernel_rfl) Tryd.func3 (by kernel_rfl)
    (of_decide_eq_true (by kernel_rfl)) (by unfold Func.isWrapper; first | (rw [if_pos (by decide +kernel)]; kernel_rfl) | (rw [if_neg (by decide +kernel)]; exact ⟨rfl, rfl⟩))
    (fun os started H enc _ F => by rw [OpenClaim.pre_eq_preRow]; exact pathWith_lifted os started H enc F)
theorem pathWith_plain (f : FuncId) (fn : Func) (hf : Tryd.pinned.checked.prog.funcNamed "tabellion/tabellionlaw04.PathWith" = some f) (hfn : Tryd.pinned.checked.prog.funcs[f]? = some fn) :
    false = Tryd.pinned.checked.prog.looks [] ∧ ∀ (j : Nat) t, fn.params[j]? = some t → Tryd.pinned.checked.prog.wantsStandIn t = false := by
  obtain rfl : f = 3 := Option.some.inj ((show Tryd.prog.funcNamed "tabellion/tabellionlaw04.PathWith" = some 3 by kernel_rfl).symm.trans hf) |>.symm
  obtain rfl : fn = Tryd.f3 := (Option.some.inj (Tryd.func3.symm.trans hfn)).symm
  refine ⟨by kernel_rfl, fun j t ht => ?_⟩
  rw [Tryd.params3] at ht
  have hm := Array.mem_of_getElem? ht
  have hm : t = 23 ∨ t = 3 ∨ t = 3 ∨ t = 9 := by simpa using hm
  rcases hm with rfl | rfl | rfl | rfl
  · exact (show Tryd.prog.wantsStandIn 23 = false by kernel_rfl)
  · exact (show Tryd.prog.wantsStandIn 3 = false by kernel_rfl)
  · exact (show Tryd.prog.wantsStandIn 3 = false by kernel_rfl)
  · exact (show Tryd.prog.wantsStandIn 9 = false by kernel_rfl)
theorem pathWith_card : Rows.PathWithCardSaid :=
  Claim7.holds_tied_plain_at .later [] _ _ _ _ pathWith_said (fun _ h => by cases h) (by kernel_rfl) (fun _ h => by cases h) pathWith_row_tie rfl ⟨rfl, rfl⟩ (by kernel_rfl) rfl pathWith_plain (by kernel_rfl)
end Go.Proofs.YtokpnjbfbkphiaaDoor
