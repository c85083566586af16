/- The law MacSums: whatever its arguments are, the call returns true and its arguments read as they did, where the listed tables hold what the program's text lays in them: the row, and its card, which ties that to the text. -/
import Derived.Test.YtimcondlcknbbaaDoorWMacSums
import Derived.Test.YtimcondlcknbbaaDoorSxOpen
import Derived.Test.YtimcondlcknbbaaDoorCards
import Derived.Test.YtimcondlcknbbaaDoorTie
import Derived.WalkKit
import Derived.ProofKit
import Derived.OpenShut
import Derived.ShutString
import Derived.Below
import Derived.Deep.DeepHandedRow
import Derived.Lib.LaidTab
import Derived.Stop.LaidErr
set_option linter.unusedVariables false
set_option linter.unusedSimpArgs false
namespace Go.Proofs.YtimcondlcknbbaaDoor
open Go.ChangeShapes Go.WideShapes Go.ChangeAt Go.RowKit Go.Sx
open Go.ChangeMaps (open_string shut_string)

theorem macSums_own : ownKnob Tryd.prog.godebug = none := by kernel_rfl
theorem macSums_laidOut : laidOutB Tryd.prog = true := by kernel_rfl
theorem macSums_len : KTi.length = 64 := by decide
theorem macSums_g0 : Tryd.prog.globalNamed "tabellion/sha.keys" = some 0 := by kernel_rfl
theorem macSums_t0 : (Tryd.prog.globals[0]?).map (·.type) = some 49 := by kernel_rfl
theorem macSums_tab0 {W : World} (h : laidMetH Tryd.prog Rows.macSumsRow.laid W) : TabK KT 0 W := fun i hi => by
  have h1 : Lib.TabIs Tryd.prog W "tabellion/sha.keys" .u32 KTi := Lib.tabIs_of_head macSums_g0 macSums_t0 Tryd.underlying49 Tryd.underlying41 (by kernel_rfl) (by kernel_rfl) h
  have h2 := h1.cell macSums_g0 i (by rw [macSums_len]; exact hi)
  rw [h2, KTi_eq i hi]
set_option maxRecDepth 100000 in
theorem macSums_contract (H : Type) (enc : TypeId × Value → H) (W : World) (base : Nat) (args : Array Value) (ds gs : List (DataW H)) (before : List MemPlace)
    (hval0 : ∀ (j : Nat) t v, Tryd.f6.params[j]? = some t → args[j]? = some v → Value.okWide Tryd.prog W .any base t v)
    (hW : DataW.Whole enc Tryd.prog Tryd.f6.params.toList Rows.macSumsSpec.vars false W args.toList ds gs before) (hL : laidMetH Tryd.prog Rows.macSumsRow.laid W) :
    Calls Tryd.prog 6 args W fun e W' => ∃ v, e = .returned v ∧ Rows.macSumsSpec.post enc Tryd.prog Tryd.f6 false true false false W args v W' := by
  have hval : ∀ (j : Nat) t v, Tryd.f6.params[j]? = some t → args[j]? = some v → Value.okWide Tryd.prog W .any base t v := hval0
  have hW' := hW
  obtain ⟨p, q, hA0, hV, rfl, hfz, hnd⟩ := hW
  have hA : DataW.TrodAll enc Tryd.prog W 0 (fun _ => true) true Tryd.f6.params.toList args.toList ds p := hA0
  rw [Tryd.params6] at hA hval
  obtain ⟨v0, vs0, d0, ds0, p0, q0, hargs, rfl, rfl, h0, r0⟩ := trodAll_cons hA
  obtain ⟨v1, vs1, d1, ds1, p1, q1, rfl, rfl, rfl, h1, r1⟩ := trodAll_cons r0
  obtain ⟨rfl, rfl, rfl⟩ := trodAll_nil r1
  obtain rfl : args = #[v0, v1] := by cases args; simp_all
  obtain ⟨rfl, rfl⟩ := trodVars_none hV
  have k0 := h0
  have lt0 : ∀ x ∈ p0, x.block < W.heap.size := by obtain ⟨m, hm⟩ := k0; exact DataW.trod_lt m _ _ _ hm
  have k1 := h1
  have lt1 : ∀ x ∈ p1, x.block < W.heap.size := by obtain ⟨m, hm⟩ := k1; exact DataW.trod_lt m _ _ _ hm
  have qcx0 := open_cap Tryd.underlying22 Tryd.underlying5 (by kernel_rfl) (hval 0 22 v0 rfl rfl) h0
  obtain ⟨x0, sx0, bx0⟩ := open_bytes Tryd.underlying22 Tryd.underlying5 (by kernel_rfl) (hval 0 22 v0 rfl rfl) h0
  have qcx1 := open_cap Tryd.underlying22 Tryd.underlying5 (by kernel_rfl) (hval 1 22 v1 rfl rfl) h1
  obtain ⟨x1, sx1, bx1⟩ := open_bytes Tryd.underlying22 Tryd.underlying5 (by kernel_rfl) (hval 1 22 v1 rfl rfl) h1
  clear hA0 hval0
  refine (MacSums_w v0 x0 v1 x1 W sx0 sx1 bx0 bx1 qcx0 qcx1 (macSums_tab0 hL)).mono fun e W' ⟨he, hfr⟩ => ?_
  have bel := hfr.below
  subst he
  exact ⟨_, rfl, _, _, _, [], _, [], hW', trodAll_mk1 (shut_bool Tryd.underlying4 _), (trodAll_cons_mk (Below.trod macSums_laidOut (by kernel_rfl) (of_decide_eq_true (by kernel_rfl)) k0 bel lt0) (trodAll_cons_mk (Below.trod macSums_laidOut (by kernel_rfl) (of_decide_eq_true (by kernel_rfl)) k1 bel lt1) trodAll_mk0)), rfl, bel.frame _, fun h => by cases h⟩
noncomputable def macSums_world (os : Os) : World :=
  { (World.holding Tryd.prog os ⟨#[], #[], []⟩) with heap := ((World.holding Tryd.prog os ⟨#[], #[], []⟩).heap.modify 0 fun
    | .cells _ t frozen => .cells (wl KT).toArray t frozen
    | o => o) }
theorem macSums_met (os : Os) : laidMet Tryd.prog Rows.macSumsRow.laid ((macSums_world os).forCall (fun _ _ => 0) ⟨#[], #[.slice none 0 0, .slice none 0 0], []⟩).memory :=
  laidMet_of_run' 8 (by kernel_rfl) (by kernel_rfl)
theorem macSums_reads (os : Os) {H : Type} (enc : TypeId × Value → H) : ∃ places, DataW.whole enc Tryd.prog ((macSums_world os).forCall (fun _ _ => 0) ⟨#[], #[.slice none 0 0, .slice none 0 0], []⟩).memory Tryd.f6.params.toList Rows.macSumsSpec.vars false #[(.slice none 0 0 : Value), (.slice none 0 0 : Value)].toList 8 = some ([.nil, .nil], [], places) :=
  ⟨[], by kernel_rfl⟩
set_option maxRecDepth 100000 in
theorem macSums_lifted (os : Os) (started : os.Started) (H : Type) (enc : TypeId × Value → H) (F : Stop.Interp) :
    ReturnsInHanded {} Tryd.checked os 6 .any ((OpenSpec.ofChange Rows.macSumsSpec).preRow enc Tryd.prog Tryd.f6 Rows.macSumsRow.domain false Rows.macSumsRow.laid) (((OpenSpec.ofChange Rows.macSumsSpec).at F).post enc Tryd.prog Tryd.f6 false true false false) := by
  obtain ⟨places, hx⟩ := macSums_reads os enc
  refine returnsInHanded_of_row (C := Tryd.checked) (s := OpenSpec.ofChange Rows.macSumsSpec) macSums_own started (by kernel_rfl) Tryd.func6
    (witness_row_at (enc := enc) (C := Tryd.checked) false (macSums_world os) #[.slice none 0 0, .slice none 0 0] rfl (by kernel_rfl) (by kernel_rfl) (by kernel_rfl)
      (OpenSpec.preRow_of_cond 8 hx (by kernel_rfl) (fun k hk => by cases hk) (by kernel_rfl) (macSums_met os))) ?_
  intro W base args ds gs before hval hW _ _ _ hL _ _
  exact macSums_contract H enc W base args ds gs before hval hW hL
theorem macSums_said : Rows.MacSumsSaid :=
  OpenClaim.holds_of_cond 6 Tryd.f6 rfl rfl rfl rfl rfl rfl rfl ⟨rfl, rfl, rfl, rfl, rfl⟩ rfl rfl rfl rfl rfl (by kernel_rfl) Tryd.func6 (by kernel_rfl)
    (of_decide_eq_true (by kernel_rfl)) (by unfold Func.isWrapper; first | (rw [if_pos (by decide +kernel)]; kernel_rfl) | (rw [if_neg (by decide +kernel)]; exact ⟨rfl, rfl⟩))
    (fun os started H enc _ F => by rw [OpenClaim.pre_eq_preRow]; exact macSums_lifted os started H enc F)
theorem macSums_plain (f : FuncId) (fn : Func) (hf : Tryd.pinned.checked.prog.funcNamed "tabellion/tabellionlaw03.MacSums" = some f) (hfn : Tryd.pinned.checked.prog.funcs[f]? = some fn) :
    false = Tryd.pinned.checked.prog.looks [] ∧ ∀ (j : Nat) t, fn.params[j]? = some t → Tryd.pinned.checked.prog.wantsStandIn t = false := by
  obtain rfl : f = 6 := Option.some.inj ((show Tryd.prog.funcNamed "tabellion/tabellionlaw03.MacSums" = some 6 by kernel_rfl).symm.trans hf) |>.symm
  obtain rfl : fn = Tryd.f6 := (Option.some.inj (Tryd.func6.symm.trans hfn)).symm
  refine ⟨by kernel_rfl, fun j t ht => ?_⟩
  rw [Tryd.params6] at ht
  have hm := Array.mem_of_getElem? ht
  have hm : t = 22 ∨ t = 22 := by simpa using hm
  rcases hm with rfl | rfl
  · exact (show Tryd.prog.wantsStandIn 22 = false by kernel_rfl)
  · exact (show Tryd.prog.wantsStandIn 22 = false by kernel_rfl)
theorem macSums_card : Rows.MacSumsCardSaid :=
  Claim7.holds_tied_plain_at .later [] _ _ _ _ macSums_said (fun _ h => by cases h) (by kernel_rfl) (fun _ h => by cases h) macSums_row_tie rfl ⟨rfl, rfl⟩ (by kernel_rfl) rfl macSums_plain (by kernel_rfl)
end Go.Proofs.YtimcondlcknbbaaDoor
