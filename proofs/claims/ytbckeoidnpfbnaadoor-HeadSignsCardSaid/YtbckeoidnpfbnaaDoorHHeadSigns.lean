/- The law HeadSigns: whatever its arguments are, the call returns true and its arguments read as they did, where the listed tables hold what the program's text lays in them: the row, and its card, which ties that to the text. -/
import Derived.Test.YtbckeoidnpfbnaaDoorWHeadSigns
import Derived.Test.YtbckeoidnpfbnaaDoorHeadOpen
import Derived.Test.YtbckeoidnpfbnaaDoorSignedOpen
import Derived.Test.YtbckeoidnpfbnaaDoorCards
import Derived.Test.YtbckeoidnpfbnaaDoorTie
import Derived.WalkKit
import Derived.ProofKit
import Derived.OpenShut
import Derived.ShutString
import Derived.Below
import Derived.Deep.DeepHandedRow
import Derived.Lib.LaidTab
import Derived.Stop.LaidErr
set_option linter.unusedVariables false
set_option linter.unusedSimpArgs false
namespace Go.Proofs.YtbckeoidnpfbnaaDoor
open Go.ChangeShapes Go.WideShapes Go.ChangeAt Go.RowKit Go.Sx
open Go.ChangeMaps (open_string shut_string)

theorem headSigns_own : ownKnob Tryd.prog.godebug = none := by kernel_rfl
theorem headSigns_laidOut : laidOutB Tryd.prog = true := by kernel_rfl
theorem headSigns_len : KTi.length = 64 := by decide
theorem headSigns_g0 : Tryd.prog.globalNamed "tabellion/sha.keys" = some 0 := by kernel_rfl
theorem headSigns_t0 : (Tryd.prog.globals[0]?).map (·.type) = some 78 := by kernel_rfl
theorem headSigns_tab0 {W : World} (h : laidMetH Tryd.prog Rows.headSignsRow.laid W) : TabK KT 0 W := fun i hi => by
  have h1 : Lib.TabIs Tryd.prog W "tabellion/sha.keys" .u32 KTi := Lib.tabIs_of_head headSigns_g0 headSigns_t0 Tryd.underlying78 Tryd.underlying70 (by kernel_rfl) (by kernel_rfl) h
  have h2 := h1.cell headSigns_g0 i (by rw [headSigns_len]; exact hi)
  rw [h2, KTi_eq i hi]
theorem headSigns_g1 : Tryd.prog.globalNamed "tabellion/tabellionref02.key" = some 1 := by kernel_rfl
theorem headSigns_t1 : (Tryd.prog.globals[1]?).map (·.type) = some 78 := by kernel_rfl
theorem headSigns_tab1 {W : World} (h : laidMetH Tryd.prog Rows.headSignsRow.laid W) : TabK KT 1 W := fun i hi => by
  have h1 : Lib.TabIs Tryd.prog W "tabellion/tabellionref02.key" .u32 KTi := Lib.tabIs_of_head headSigns_g1 headSigns_t1 Tryd.underlying78 Tryd.underlying70 (by kernel_rfl) (by kernel_rfl) (laidMet.tail h)
  have h2 := h1.cell headSigns_g1 i (by rw [headSigns_len]; exact hi)
  rw [h2, KTi_eq i hi]
set_option maxRecDepth 100000 in
theorem headSigns_contract (H : Type) (enc : TypeId × Value → H) (W : World) (base : Nat) (args : Array Value) (ds gs : List (DataW H)) (before : List MemPlace)
    (hval0 : ∀ (j : Nat) t v, Tryd.f4.params[j]? = some t → args[j]? = some v → Value.okWide Tryd.prog W .any base t v)
    (hW : DataW.Whole enc Tryd.prog Tryd.f4.params.toList Rows.headSignsSpec.vars false W args.toList ds gs before) (hL : laidMetH Tryd.prog Rows.headSignsRow.laid W) :
    Calls Tryd.prog 4 args W fun e W' => ∃ v, e = .returned v ∧ Rows.headSignsSpec.post enc Tryd.prog Tryd.f4 false true false false W args v W' := by
  have hval : ∀ (j : Nat) t v, Tryd.f4.params[j]? = some t → args[j]? = some v → Value.okWide Tryd.prog W .any base t v := hval0
  have hW' := hW
  obtain ⟨p, q, hA0, hV, rfl, hfz, hnd⟩ := hW
  have hA : DataW.TrodAll enc Tryd.prog W 0 (fun _ => true) true Tryd.f4.params.toList args.toList ds p := hA0
  rw [Tryd.params4] at hA hval
  obtain ⟨v0, vs0, d0, ds0, p0, q0, hargs, rfl, rfl, h0, r0⟩ := trodAll_cons hA
  obtain ⟨v1, vs1, d1, ds1, p1, q1, rfl, rfl, rfl, h1, r1⟩ := trodAll_cons r0
  obtain ⟨rfl, rfl, rfl⟩ := trodAll_nil r1
  obtain rfl : args = #[v0, v1] := by cases args; simp_all
  obtain ⟨rfl, rfl⟩ := trodVars_none hV
  have k0 := h0
  have lt0 : ∀ x ∈ p0, x.block < W.heap.size := by obtain ⟨m, hm⟩ := k0; exact DataW.trod_lt m _ _ _ hm
  have k1 := h1
  have lt1 : ∀ x ∈ p1, x.block < W.heap.size := by obtain ⟨m, hm⟩ := k1; exact DataW.trod_lt m _ _ _ hm
  obtain ⟨x0, rfl, e0, f0, wx0⟩ := open_string Tryd.underlying9 (hval 0 9 v0 rfl rfl) h0
  obtain ⟨x1, y1, z1, rfl, lx1, lz1, bx1, bz1⟩ := open_head (hval 1 25 v1 rfl rfl) h1
  clear hA0 hval0
  refine (HeadSigns_w x0 x1 y1 z1 W lx1 lz1 bx1 bz1 (headSigns_tab0 hL) (headSigns_tab1 hL)).mono fun e W' ⟨he, hfr⟩ => ?_
  have bel := hfr.below
  subst he
  exact ⟨_, rfl, _, _, _, [], _, [], hW', trodAll_mk1 (shut_bool Tryd.underlying4 _), (trodAll_cons_mk (Below.trod headSigns_laidOut (by kernel_rfl) (of_decide_eq_true (by kernel_rfl)) k0 bel lt0) (trodAll_cons_mk (Below.trod headSigns_laidOut (by kernel_rfl) (of_decide_eq_true (by kernel_rfl)) k1 bel lt1) trodAll_mk0)), rfl, bel.frame _, fun h => by cases h⟩
noncomputable def headSigns_world (os : Os) : World :=
  { (World.holding Tryd.prog os ⟨#[], #[], []⟩) with heap := (((World.holding Tryd.prog os ⟨#[], #[], []⟩).heap.modify 0 fun
    | .cells _ t frozen => .cells (wl KT).toArray t frozen
    | o => o).modify 1 fun
    | .cells _ t frozen => .cells (wl KT).toArray t frozen
    | o => o) }
theorem headSigns_met (os : Os) : laidMet Tryd.prog Rows.headSignsRow.laid ((headSigns_world os).forCall (fun _ _ => 0) ⟨#[], #[.string ⟨#[]⟩, .agg (hdL 0 zd zd).toArray], []⟩).memory :=
  laidMet_of_run' 8 (by kernel_rfl) (by kernel_rfl)
theorem headSigns_reads (os : Os) {H : Type} (enc : TypeId × Value → H) : ∃ places, DataW.whole enc Tryd.prog ((headSigns_world os).forCall (fun _ _ => 0) ⟨#[], #[.string ⟨#[]⟩, .agg (hdL 0 zd zd).toArray], []⟩).memory Tryd.f4.params.toList Rows.headSignsSpec.vars false #[(.string ⟨#[]⟩ : Value), (.agg (hdL 0 zd zd).toArray : Value)].toList 8 = some ([.lit (.string []), .agg [.lit (.int .i64 0), .agg (List.replicate 32 (.lit (.int .u8 0))), .agg (List.replicate 32 (.lit (.int .u8 0)))]], [], places) :=
  ⟨[], by kernel_rfl⟩
set_option maxRecDepth 100000 in
theorem headSigns_lifted (os : Os) (started : os.Started) (H : Type) (enc : TypeId × Value → H) (F : Stop.Interp) :
    ReturnsInHanded {} Tryd.checked os 4 .any ((OpenSpec.ofChange Rows.headSignsSpec).preRow enc Tryd.prog Tryd.f4 Rows.headSignsRow.domain false Rows.headSignsRow.laid) (((OpenSpec.ofChange Rows.headSignsSpec).at F).post enc Tryd.prog Tryd.f4 false true false false) := by
  obtain ⟨places, hx⟩ := headSigns_reads os enc
  refine returnsInHanded_of_row (C := Tryd.checked) (s := OpenSpec.ofChange Rows.headSignsSpec) headSigns_own started (by kernel_rfl) Tryd.func4
    (witness_row_at (enc := enc) (C := Tryd.checked) false (headSigns_world os) #[.string ⟨#[]⟩, .agg (hdL 0 zd zd).toArray] rfl (by kernel_rfl) (by kernel_rfl) (by kernel_rfl)
      (OpenSpec.preRow_of_cond 8 hx (by kernel_rfl) (fun k hk => by cases hk) (by kernel_rfl) (headSigns_met os))) ?_
  intro W base args ds gs before hval hW _ _ _ hL _ _
  exact headSigns_contract H enc W base args ds gs before hval hW hL
theorem headSigns_said : Rows.HeadSignsSaid :=
  OpenClaim.holds_of_cond 4 Tryd.f4 rfl rfl rfl rfl rfl rfl rfl ⟨rfl, rfl, rfl, rfl, rfl⟩ rfl rfl rfl rfl rfl (by kernel_rfl) Tryd.func4 (by kernel_rfl)
    (of_decide_eq_true (by kernel_rfl)) (by unfold Func.isWrapper; first | (rw [if_pos (by decide +kernel)]; kernel_rfl) | (rw [if_neg (by decide +kernel)]; exact ⟨rfl, rfl⟩))
    (fun os started H enc _ F => by rw [OpenClaim.pre_eq_preRow]; exact headSigns_lifted os started H enc F)
theorem headSigns_plain (f : FuncId) (fn : Func) (hf : Tryd.pinned.checked.prog.funcNamed "tabellion/tabellionlaw09.HeadSigns" = some f) (hfn : Tryd.pinned.checked.prog.funcs[f]? = some fn) :
    false = Tryd.pinned.checked.prog.looks [] ∧ ∀ (j : Nat) t, fn.params[j]? = some t → Tryd.pinned.checked.prog.wantsStandIn t = false := by
  obtain rfl : f = 4 := Option.some.inj ((show Tryd.prog.funcNamed "tabellion/tabellionlaw09.HeadSigns" = some 4 by kernel_rfl).symm.trans hf) |>.symm
  obtain rfl : fn = Tryd.f4 := (Option.some.inj (Tryd.func4.symm.trans hfn)).symm
  refine ⟨by kernel_rfl, fun j t ht => ?_⟩
  rw [Tryd.params4] at ht
  have hm := Array.mem_of_getElem? ht
  have hm : t = 9 ∨ t = 25 := by simpa using hm
  rcases hm with rfl | rfl
  · exact (show Tryd.prog.wantsStandIn 9 = false by kernel_rfl)
  · exact (show Tryd.prog.wantsStandIn 25 = false by kernel_rfl)
theorem headSigns_card : Rows.HeadSignsCardSaid :=
  Claim7.holds_tied_plain_at .later [] _ _ _ _ headSigns_said (fun _ h => by cases h) (by kernel_rfl) (fun _ h => by cases h) headSigns_row_tie rfl ⟨rfl, rfl⟩ (by kernel_rfl) rfl headSigns_plain (by kernel_rfl)
end Go.Proofs.YtbckeoidnpfbnaaDoor
