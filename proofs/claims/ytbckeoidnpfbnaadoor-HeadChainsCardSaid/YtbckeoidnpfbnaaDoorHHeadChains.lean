/- The law HeadChains: whatever its arguments are, the call returns true and its arguments read as they did, where the listed tables hold what the program's text lays in them: the row, and its card, which ties that to the text. -/
import Derived.Test.YtbckeoidnpfbnaaDoorWHeadChains
import Derived.Test.YtbckeoidnpfbnaaDoorChainOpen
import Derived.Test.YtbckeoidnpfbnaaDoorCards
import Derived.Test.YtbckeoidnpfbnaaDoorTie
import Derived.WalkKit
import Derived.ProofKit
import Derived.OpenShut
import Derived.ShutString
import Derived.Below
import Derived.Deep.DeepHandedRow
import Derived.Lib.LaidTab
import Derived.Stop.LaidErr
set_option linter.unusedVariables false
set_option linter.unusedSimpArgs false
namespace Go.Proofs.YtbckeoidnpfbnaaDoor
open Go.ChangeShapes Go.WideShapes Go.ChangeAt Go.RowKit Go.Sx
open Go.ChangeMaps (open_string shut_string)

theorem headChains_own : ownKnob Tryd.prog.godebug = none := by kernel_rfl
theorem headChains_laidOut : laidOutB Tryd.prog = true := by kernel_rfl
theorem headChains_len : KTi.length = 64 := by decide
theorem headChains_g0 : Tryd.prog.globalNamed "tabellion/sha.keys" = some 0 := by kernel_rfl
theorem headChains_t0 : (Tryd.prog.globals[0]?).map (·.type) = some 78 := by kernel_rfl
theorem headChains_tab0 {W : World} (h : laidMetH Tryd.prog Rows.headChainsRow.laid W) : TabK KT 0 W := fun i hi => by
  have h1 : Lib.TabIs Tryd.prog W "tabellion/sha.keys" .u32 KTi := Lib.tabIs_of_head headChains_g0 headChains_t0 Tryd.underlying78 Tryd.underlying70 (by kernel_rfl) (by kernel_rfl) h
  have h2 := h1.cell headChains_g0 i (by rw [headChains_len]; exact hi)
  rw [h2, KTi_eq i hi]
theorem headChains_g1 : Tryd.prog.globalNamed "tabellion/tabellionref02.key" = some 1 := by kernel_rfl
theorem headChains_t1 : (Tryd.prog.globals[1]?).map (·.type) = some 78 := by kernel_rfl
theorem headChains_tab1 {W : World} (h : laidMetH Tryd.prog Rows.headChainsRow.laid W) : TabK KT 1 W := fun i hi => by
  have h1 : Lib.TabIs Tryd.prog W "tabellion/tabellionref02.key" .u32 KTi := Lib.tabIs_of_head headChains_g1 headChains_t1 Tryd.underlying78 Tryd.underlying70 (by kernel_rfl) (by kernel_rfl) (laidMet.tail h)
  have h2 := h1.cell headChains_g1 i (by rw [headChains_len]; exact hi)
  rw [h2, KTi_eq i hi]
set_option maxRecDepth 100000 in
theorem headChains_contract (H : Type) (enc : TypeId × Value → H) (W : World) (base : Nat) (args : Array Value) (ds gs : List (DataW H)) (before : List MemPlace)
    (hval0 : ∀ (j : Nat) t v, Tryd.f7.params[j]? = some t → args[j]? = some v → Value.okWide Tryd.prog W .any base t v)
    (hW : DataW.Whole enc Tryd.prog Tryd.f7.params.toList Rows.headChainsSpec.vars false W args.toList ds gs before) (hL : laidMetH Tryd.prog Rows.headChainsRow.laid W) :
    Calls Tryd.prog 7 args W fun e W' => ∃ v, e = .returned v ∧ Rows.headChainsSpec.post enc Tryd.prog Tryd.f7 false true false false W args v W' := by
  have hval : ∀ (j : Nat) t v, Tryd.f7.params[j]? = some t → args[j]? = some v → Value.okWide Tryd.prog W .any base t v := hval0
  have hW' := hW
  obtain ⟨p, q, hA0, hV, rfl, hfz, hnd⟩ := hW
  have hA : DataW.TrodAll enc Tryd.prog W 0 (fun _ => true) true Tryd.f7.params.toList args.toList ds p := hA0
  rw [Tryd.params7] at hA hval
  obtain ⟨v0, vs0, d0, ds0, p0, q0, hargs, rfl, rfl, h0, r0⟩ := trodAll_cons hA
  obtain ⟨v1, vs1, d1, ds1, p1, q1, rfl, rfl, rfl, h1, r1⟩ := trodAll_cons r0
  obtain ⟨rfl, rfl, rfl⟩ := trodAll_nil r1
  obtain rfl : args = #[v0, v1] := by cases args; simp_all
  obtain ⟨rfl, rfl⟩ := trodVars_none hV
  have k0 := h0
  have lt0 : ∀ x ∈ p0, x.block < W.heap.size := by obtain ⟨m, hm⟩ := k0; exact DataW.trod_lt m _ _ _ hm
  have k1 := h1
  have lt1 : ∀ x ∈ p1, x.block < W.heap.size := by obtain ⟨m, hm⟩ := k1; exact DataW.trod_lt m _ _ _ hm
  obtain ⟨x0, rfl, e0, f0, wx0⟩ := open_string Tryd.underlying9 (hval 0 9 v0 rfl rfl) h0
  obtain ⟨n1, x1, lx1, sx1, qx1⟩ := open_signeds (hval 1 44 v1 rfl rfl) h1
  clear hA0 hval0
  refine (HeadChains_w x0 v1 n1 x1 W lx1 sx1 qx1 (headChains_tab0 hL) (headChains_tab1 hL)).mono fun e W' ⟨he, hfr⟩ => ?_
  have bel := hfr.below
  subst he
  exact ⟨_, rfl, _, _, _, [], _, [], hW', trodAll_mk1 (shut_bool Tryd.underlying4 _), (trodAll_cons_mk (Below.trod headChains_laidOut (by kernel_rfl) (of_decide_eq_true (by kernel_rfl)) k0 bel lt0) (trodAll_cons_mk (Below.trod headChains_laidOut (by kernel_rfl) (of_decide_eq_true (by kernel_rfl)) k1 bel lt1) trodAll_mk0)), rfl, bel.frame _, fun h => by cases h⟩
noncomputable def headChains_world (os : Os) : World :=
  { (World.holding Tryd.prog os ⟨#[], #[], []⟩) with heap := (((World.holding Tryd.prog os ⟨#[], #[], []⟩).heap.modify 0 fun
    | .cells _ t frozen => .cells (wl KT).toArray t frozen
    | o => o).modify 1 fun
    | .cells _ t frozen => .cells (wl KT).toArray t frozen
    | o => o) }
theorem headChains_met (os : Os) : laidMet Tryd.prog Rows.headChainsRow.laid ((headChains_world os).forCall (fun _ _ => 0) ⟨#[], #[.string ⟨#[]⟩, .slice none 0 0], []⟩).memory :=
  laidMet_of_run' 8 (by kernel_rfl) (by kernel_rfl)
theorem headChains_reads (os : Os) {H : Type} (enc : TypeId × Value → H) : ∃ places, DataW.whole enc Tryd.prog ((headChains_world os).forCall (fun _ _ => 0) ⟨#[], #[.string ⟨#[]⟩, .slice none 0 0], []⟩).memory Tryd.f7.params.toList Rows.headChainsSpec.vars false #[(.string ⟨#[]⟩ : Value), (.slice none 0 0 : Value)].toList 8 = some ([.lit (.string []), .nil], [], places) :=
  ⟨[], by kernel_rfl⟩
set_option maxRecDepth 100000 in
theorem headChains_lifted (os : Os) (started : os.Started) (H : Type) (enc : TypeId × Value → H) (F : Stop.Interp) :
    ReturnsInHanded {} Tryd.checked os 7 .any ((OpenSpec.ofChange Rows.headChainsSpec).preRow enc Tryd.prog Tryd.f7 Rows.headChainsRow.domain false Rows.headChainsRow.laid) (((OpenSpec.ofChange Rows.headChainsSpec).at F).post enc Tryd.prog Tryd.f7 false true false false) := by
  obtain ⟨places, hx⟩ := headChains_reads os enc
  refine returnsInHanded_of_row (C := Tryd.checked) (s := OpenSpec.ofChange Rows.headChainsSpec) headChains_own started (by kernel_rfl) Tryd.func7
    (witness_row_at (enc := enc) (C := Tryd.checked) false (headChains_world os) #[.string ⟨#[]⟩, .slice none 0 0] rfl (by kernel_rfl) (by kernel_rfl) (by kernel_rfl)
      (OpenSpec.preRow_of_cond 8 hx (by kernel_rfl) (fun k hk => by cases hk) (by kernel_rfl) (headChains_met os))) ?_
  intro W base args ds gs before hval hW _ _ _ hL _ _
  exact headChains_contract H enc W base args ds gs before hval hW hL
theorem headChains_said : Rows.HeadChainsSaid :=
  OpenClaim.holds_of_cond 7 Tryd.f7 rfl rfl rfl rfl rfl rfl rfl ⟨rfl, rfl, rfl, rfl, rfl⟩ rfl rfl rfl rfl rfl (by kernel_rfl) Tryd.func7 (by kernel_rfl)
    (of_decide_eq_true (by kernel_rfl)) (by unfold Func.isWrapper; first | (rw [if_pos (by decide +kernel)]; kernel_rfl) | (rw [if_neg (by decide +kernel)]; exact ⟨rfl, rfl⟩))
    (fun os started H enc _ F => by rw [OpenClaim.pre_eq_preRow]; exact headChains_lifted os started H enc F)
theorem headChains_plain (f : FuncId) (fn : Func) (hf : Tryd.pinned.checked.prog.funcNamed "tabellion/tabellionlaw09.HeadChains" = some f) (hfn : Tryd.pinned.checked.prog.funcs[f]? = some fn) :
    false = Tryd.pinned.checked.prog.looks [] ∧ ∀ (j : Nat) t, fn.params[j]? = some t → Tryd.pinned.checked.prog.wantsStandIn t = false := by
  obtain rfl : f = 7 := Option.some.inj ((show Tryd.prog.funcNamed "tabellion/tabellionlaw09.HeadChains" = some 7 by kernel_rfl).symm.trans hf) |>.symm
  obtain rfl : fn = Tryd.f7 := (Option.some.inj (Tryd.func7.symm.trans hfn)).symm
  refine ⟨by kernel_rfl, fun j t ht => ?_⟩
  rw [Tryd.params7] at ht
  have hm := Array.mem_of_getElem? ht
  have hm : t = 9 ∨ t = 44 := by simpa using hm
  rcases hm with rfl | rfl
  · exact (show Tryd.prog.wantsStandIn 9 = false by kernel_rfl)
  · exact (show Tryd.prog.wantsStandIn 44 = false by kernel_rfl)
theorem headChains_card : Rows.HeadChainsCardSaid :=
  Claim7.holds_tied_plain_at .later [] _ _ _ _ headChains_said (fun _ h => by cases h) (by kernel_rfl) (fun _ h => by cases h) headChains_row_tie rfl ⟨rfl, rfl⟩ (by kernel_rfl) rfl headChains_plain (by kernel_rfl)
end Go.Proofs.YtbckeoidnpfbnaaDoor
