/- The law ShaParts: whatever its arguments are, the call returns true and its arguments read as they did, where the listed tables hold what the program's text lays in them: the row, and its card, which ties that to the text. -/
import Derived.Test.YtejhcdjfcopphaaDoorWShaParts
import Derived.Test.YtejhcdjfcopphaaDoorSxOpen
import Derived.Test.YtejhcdjfcopphaaDoorSxRows
import Derived.Test.YtejhcdjfcopphaaDoorCards
import Derived.Test.YtejhcdjfcopphaaDoorTie
import Derived.WalkKit
import Derived.ProofKit
import Derived.OpenShut
import Derived.ShutString
import Derived.Below
import Derived.Deep.DeepHandedRow
import Derived.Lib.LaidTab
import Derived.Stop.LaidErr
set_option linter.unusedVariables false
set_option linter.unusedSimpArgs false
namespace Go.Proofs.YtejhcdjfcopphaaDoor
open Go.ChangeShapes Go.WideShapes Go.ChangeAt Go.RowKit Go.Sx
open Go.ChangeMaps (open_string shut_string)

theorem shaParts_own : ownKnob Tryd.prog.godebug = none := by kernel_rfl
theorem shaParts_laidOut : laidOutB Tryd.prog = true := by kernel_rfl
theorem shaParts_len : KTi.length = 64 := by decide
theorem shaParts_g0 : Tryd.prog.globalNamed "tabellion/sha.keys" = some 1 := by kernel_rfl
theorem shaParts_t0 : (Tryd.prog.globals[1]?).map (·.type) = some 44 := by kernel_rfl
theorem shaParts_tab0 {W : World} (h : laidMetH Tryd.prog Rows.shaPartsRow.laid W) : TabK KT 1 W := fun i hi => by
  have h1 : Lib.TabIs Tryd.prog W "tabellion/sha.keys" .u32 KTi := Lib.tabIs_of_head shaParts_g0 shaParts_t0 Tryd.underlying44 Tryd.underlying40 (by kernel_rfl) (by kernel_rfl) h
  have h2 := h1.cell shaParts_g0 i (by rw [shaParts_len]; exact hi)
  rw [h2, KTi_eq i hi]
theorem shaParts_g1 : Tryd.prog.globalNamed "tabellion/tabellionref02.key" = some 0 := by kernel_rfl
theorem shaParts_t1 : (Tryd.prog.globals[0]?).map (·.type) = some 44 := by kernel_rfl
theorem shaParts_tab1 {W : World} (h : laidMetH Tryd.prog Rows.shaPartsRow.laid W) : TabK KT 0 W := fun i hi => by
  have h1 : Lib.TabIs Tryd.prog W "tabellion/tabellionref02.key" .u32 KTi := Lib.tabIs_of_head shaParts_g1 shaParts_t1 Tryd.underlying44 Tryd.underlying40 (by kernel_rfl) (by kernel_rfl) (laidMet.tail h)
  have h2 := h1.cell shaParts_g1 i (by rw [shaParts_len]; exact hi)
  rw [h2, KTi_eq i hi]
set_option maxRecDepth 100000 in
theorem shaParts_contract (H : Type) (enc : TypeId × Value → H) (W : World) (base : Nat) (args : Array Value) (ds gs : List (DataW H)) (before : List MemPlace)
    (hval0 : ∀ (j : Nat) t v, Tryd.f6.params[j]? = some t → args[j]? = some v → Value.okWide Tryd.prog W .any base t v)
    (hW : DataW.Whole enc Tryd.prog Tryd.f6.params.toList Rows.shaPartsSpec.vars false W args.toList ds gs before) (hL : laidMetH Tryd.prog Rows.shaPartsRow.laid W) :
    Calls Tryd.prog 6 args W fun e W' => ∃ v, e = .returned v ∧ Rows.shaPartsSpec.post enc Tryd.prog Tryd.f6 false true false false W args v W' := by
  have hval : ∀ (j : Nat) t v, Tryd.f6.params[j]? = some t → args[j]? = some v → Value.okWide Tryd.prog W .any base t v := hval0
  have hW' := hW
  obtain ⟨p, q, hA0, hV, rfl, hfz, hnd⟩ := hW
  have hA : DataW.TrodAll enc Tryd.prog W 0 (fun _ => true) true Tryd.f6.params.toList args.toList ds p := hA0
  rw [Tryd.params6] at hA hval
  obtain ⟨v0, vs0, d0, ds0, p0, q0, hargs, rfl, rfl, h0, r0⟩ := trodAll_cons hA
  obtain ⟨v1, vs1, d1, ds1, p1, q1, rfl, rfl, rfl, h1, r1⟩ := trodAll_cons r0
  obtain ⟨rfl, rfl, rfl⟩ := trodAll_nil r1
  obtain rfl : args = #[v0, v1] := by cases args; simp_all
  obtain ⟨rfl, rfl⟩ := trodVars_none hV
  have k0 := h0
  have lt0 : ∀ x ∈ p0, x.block < W.heap.size := by obtain ⟨m, hm⟩ := k0; exact DataW.trod_lt m _ _ _ hm
  have k1 := h1
  have lt1 : ∀ x ∈ p1, x.block < W.heap.size := by obtain ⟨m, hm⟩ := k1; exact DataW.trod_lt m _ _ _ hm
  obtain ⟨n0, x0, lx0, sx0, bx0⟩ := open_rows Tryd.underlying36 Tryd.underlying22 Tryd.underlying5 (by kernel_rfl) (by kernel_rfl) (hval 0 36 v0 rfl rfl) h0
  obtain ⟨n1, x1, lx1, sx1⟩ := open_bls Tryd.underlying37 Tryd.underlying4 (by kernel_rfl) (hval 1 37 v1 rfl rfl) h1
  clear hA0 hval0
  refine (ShaParts_w v0 n0 x0 v1 n1 x1 W lx0 lx1 sx0 sx1 bx0 (shaParts_tab0 hL) (shaParts_tab1 hL)).mono fun e W' ⟨he, hfr⟩ => ?_
  have bel := hfr.below
  subst he
  exact ⟨_, rfl, _, _, _, [], _, [], hW', trodAll_mk1 (shut_bool Tryd.underlying4 _), (trodAll_cons_mk (Below.trod shaParts_laidOut (by kernel_rfl) (of_decide_eq_true (by kernel_rfl)) k0 bel lt0) (trodAll_cons_mk (Below.trod shaParts_laidOut (by kernel_rfl) (of_decide_eq_true (by kernel_rfl)) k1 bel lt1) trodAll_mk0)), rfl, bel.frame _, fun h => by cases h⟩
noncomputable def shaParts_world (os : Os) : World :=
  { (World.holding Tryd.prog os ⟨#[], #[], []⟩) with heap := (((World.holding Tryd.prog os ⟨#[], #[], []⟩).heap.modify 1 fun
    | .cells _ t frozen => .cells (wl KT).toArray t frozen
    | o => o).modify 0 fun
    | .cells _ t frozen => .cells (wl KT).toArray t frozen
    | o => o) }
theorem shaParts_met (os : Os) : laidMet Tryd.prog Rows.shaPartsRow.laid ((shaParts_world os).forCall (fun _ _ => 0) ⟨#[], #[.slice none 0 0, .slice none 0 0], []⟩).memory :=
  laidMet_of_run' 8 (by kernel_rfl) (by kernel_rfl)
theorem shaParts_reads (os : Os) {H : Type} (enc : TypeId × Value → H) : ∃ places, DataW.whole enc Tryd.prog ((shaParts_world os).forCall (fun _ _ => 0) ⟨#[], #[.slice none 0 0, .slice none 0 0], []⟩).memory Tryd.f6.params.toList Rows.shaPartsSpec.vars false #[(.slice none 0 0 : Value), (.slice none 0 0 : Value)].toList 8 = some ([.nil, .nil], [], places) :=
  ⟨[], by kernel_rfl⟩
set_option maxRecDepth 100000 in
theorem shaParts_lifted (os : Os) (started : os.Started) (H : Type) (enc : TypeId × Value → H) (F : Stop.Interp) :
    ReturnsInHanded {} Tryd.checked os 6 .any ((OpenSpec.ofChange Rows.shaPartsSpec).preRow enc Tryd.prog Tryd.f6 Rows.shaPartsRow.domain false Rows.shaPartsRow.laid) (((OpenSpec.ofChange Rows.shaPartsSpec).at F).post enc Tryd.prog Tryd.f6 false true false false) := by
  obtain ⟨places, hx⟩ := shaParts_reads os enc
  refine returnsInHanded_of_row (C := Tryd.checked) (s := OpenSpec.ofChange Rows.shaPartsSpec) shaParts_own started (by kernel_rfl) Tryd.func6
    (witness_row_at (enc := enc) (C := Tryd.checked) false (shaParts_world os) #[.slice none 0 0, .slice none 0 0] rfl (by kernel_rfl) (by kernel_rfl) (by kernel_rfl)
      (OpenSpec.preRow_of_cond 8 hx (by kernel_rfl) (fun k hk => by cases hk) (by kernel_rfl) (shaParts_met os))) ?_
  intro W base args ds gs before hval hW _ _ _ hL _ _
  exact shaParts_contract H enc W base args ds gs before hval hW hL
theorem shaParts_said : Rows.ShaPartsSaid :=
  OpenClaim.holds_of_cond 6 Tryd.f6 rfl rfl rfl rfl rfl rfl rfl ⟨rfl, rfl, rfl, rfl, rfl⟩ rfl rfl rfl rfl rfl (by kernel_rfl) Tryd.func6 (by kernel_rfl)
    (of_decide_eq_true (by kernel_rfl)) (by unfold Func.isWrapper; first | (rw [if_pos (by decide +kernel)]; kernel_rfl) | (rw [if_neg (by decide +kernel)]; exact ⟨rfl, rfl⟩))
    (fun os started H enc _ F => by rw [OpenClaim.pre_eq_preRow]; exact shaParts_lifted os started H enc F)
theorem shaParts_plain (f : FuncId) (fn : Func) (hf : Tryd.pinned.checked.prog.funcNamed "tabellion/tabellionlaw02.ShaParts" = some f) (hfn : Tryd.pinned.checked.prog.funcs[f]? = some fn) :
    false = Tryd.pinned.checked.prog.looks [] ∧ ∀ (j : Nat) t, fn.params[j]? = some t → Tryd.pinned.checked.prog.wantsStandIn t = false := by
  obtain rfl : f = 6 := Option.some.inj ((show Tryd.prog.funcNamed "tabellion/tabellionlaw02.ShaParts" = some 6 by kernel_rfl).symm.trans hf) |>.symm
  obtain rfl : fn = Tryd.f6 := (Option.some.inj (Tryd.func6.symm.trans hfn)).symm
  refine ⟨by kernel_rfl, fun j t ht => ?_⟩
  rw [Tryd.params6] at ht
  have hm := Array.mem_of_getElem? ht
  have hm : t = 36 ∨ t = 37 := by simpa using hm
  rcases hm with rfl | rfl
  · exact (show Tryd.prog.wantsStandIn 36 = false by kernel_rfl)
  · exact (show Tryd.prog.wantsStandIn 37 = false by kernel_rfl)
theorem shaParts_card : Rows.ShaPartsCardSaid :=
  Claim7.holds_tied_plain_at .later [] _ _ _ _ shaParts_said (fun _ h => by cases h) (by kernel_rfl) (fun _ h => by cases h) shaParts_row_tie rfl ⟨rfl, rfl⟩ (by kernel_rfl) rfl shaParts_plain (by kernel_rfl)
end Go.Proofs.YtejhcdjfcopphaaDoor
