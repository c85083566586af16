/- The law HeadBytes: whatever its arguments are, the call returns true and its arguments read as they did, where the listed tables hold what the program's text lays in them: the row, and its card, which ties that to the text. -/
import Derived.Test.YtbckeoidnpfbnaaDoorWHeadBytes
import Derived.Test.YtbckeoidnpfbnaaDoorHeadOpen
import Derived.Test.YtbckeoidnpfbnaaDoorSignedOpen
import Derived.Test.YtbckeoidnpfbnaaDoorCards
import Derived.Test.YtbckeoidnpfbnaaDoorTie
import Derived.WalkKit
import Derived.ProofKit
import Derived.OpenShut
import Derived.ShutString
import Derived.Below
import Derived.Deep.DeepHandedRow
import Derived.Lib.LaidTab
import Derived.Stop.LaidErr
set_option linter.unusedVariables false
set_option linter.unusedSimpArgs false
namespace Go.Proofs.YtbckeoidnpfbnaaDoor
open Go.ChangeShapes Go.WideShapes Go.ChangeAt Go.RowKit Go.Sx
open Go.ChangeMaps (open_string shut_string)

theorem headBytes_own : ownKnob Tryd.prog.godebug = none := by kernel_rfl
theorem headBytes_laidOut : laidOutB Tryd.prog = true := by kernel_rfl
theorem headBytes_len : KTi.length = 64 := by decide
theorem headBytes_g0 : Tryd.prog.globalNamed "tabellion/sha.keys" = some 0 := by kernel_rfl
theorem headBytes_t0 : (Tryd.prog.globals[0]?).map (·.type) = some 78 := by kernel_rfl
theorem headBytes_tab0 {W : World} (h : laidMetH Tryd.prog Rows.headBytesRow.laid W) : TabK KT 0 W := fun i hi => by
  have h1 : Lib.TabIs Tryd.prog W "tabellion/sha.keys" .u32 KTi := Lib.tabIs_of_head headBytes_g0 headBytes_t0 Tryd.underlying78 Tryd.underlying70 (by kernel_rfl) (by kernel_rfl) h
  have h2 := h1.cell headBytes_g0 i (by rw [headBytes_len]; exact hi)
  rw [h2, KTi_eq i hi]
set_option maxRecDepth 100000 in
theorem headBytes_contract (H : Type) (enc : TypeId × Value → H) (W : World) (base : Nat) (args : Array Value) (ds gs : List (DataW H)) (before : List MemPlace)
    (hval0 : ∀ (j : Nat) t v, Tryd.f3.params[j]? = some t → args[j]? = some v → Value.okWide Tryd.prog W .any base t v)
    (hW : DataW.Whole enc Tryd.prog Tryd.f3.params.toList Rows.headBytesSpec.vars false W args.toList ds gs before) (hL : laidMetH Tryd.prog Rows.headBytesRow.laid W) :
    Calls Tryd.prog 3 args W fun e W' => ∃ v, e = .returned v ∧ Rows.headBytesSpec.post enc Tryd.prog Tryd.f3 false true false false W args v W' := by
  have hval : ∀ (j : Nat) t v, Tryd.f3.params[j]? = some t → args[j]? = some v → Value.okWide Tryd.prog W .any base t v := hval0
  have hW' := hW
  obtain ⟨p, q, hA0, hV, rfl, hfz, hnd⟩ := hW
  have hA : DataW.TrodAll enc Tryd.prog W 0 (fun _ => true) true Tryd.f3.params.toList args.toList ds p := hA0
  rw [Tryd.params3] at hA hval
  obtain ⟨v0, vs0, d0, ds0, p0, q0, hargs, rfl, rfl, h0, r0⟩ := trodAll_cons hA
  obtain ⟨rfl, rfl, rfl⟩ := trodAll_nil r0
  obtain rfl : args = #[v0] := by cases args; simp_all
  obtain ⟨rfl, rfl⟩ := trodVars_none hV
  have k0 := h0
  have lt0 : ∀ x ∈ p0, x.block < W.heap.size := by obtain ⟨m, hm⟩ := k0; exact DataW.trod_lt m _ _ _ hm
  obtain ⟨x0, y0, z0, rfl, lx0, lz0, bx0, bz0⟩ := open_head (hval 0 25 v0 rfl rfl) h0
  clear hA0 hval0
  refine (HeadBytes_w x0 y0 z0 W lx0 lz0 bx0 bz0 (headBytes_tab0 hL)).mono fun e W' ⟨he, hfr⟩ => ?_
  have bel := hfr.below
  subst he
  exact ⟨_, rfl, _, _, _, [], _, [], hW', trodAll_mk1 (shut_bool Tryd.underlying4 _), (trodAll_cons_mk (Below.trod headBytes_laidOut (by kernel_rfl) (of_decide_eq_true (by kernel_rfl)) k0 bel lt0) trodAll_mk0), rfl, bel.frame _, fun h => by cases h⟩
noncomputable def headBytes_world (os : Os) : World :=
  { (World.holding Tryd.prog os ⟨#[], #[], []⟩) with heap := ((World.holding Tryd.prog os ⟨#[], #[], []⟩).heap.modify 0 fun
    | .cells _ t frozen => .cells (wl KT).toArray t frozen
    | o => o) }
theorem headBytes_met (os : Os) : laidMet Tryd.prog Rows.headBytesRow.laid ((headBytes_world os).forCall (fun _ _ => 0) ⟨#[], #[.agg (hdL 0 zd zd).toArray], []⟩).memory :=
  laidMet_of_run' 8 (by kernel_rfl) (by kernel_rfl)
theorem headBytes_reads (os : Os) {H : Type} (enc : TypeId × Value → H) : ∃ places, DataW.whole enc Tryd.prog ((headBytes_world os).forCall (fun _ _ => 0) ⟨#[], #[.agg (hdL 0 zd zd).toArray], []⟩).memory Tryd.f3.params.toList Rows.headBytesSpec.vars false #[(.agg (hdL 0 zd zd).toArray : Value)].toList 8 = some ([.agg [.lit (.int .i64 0), .agg (List.replicate 32 (.lit (.int .u8 0))), .agg (List.replicate 32 (.lit (.int .u8 0)))]], [], places) :=
  ⟨[], by kernel_rfl⟩
set_option maxRecDepth 100000 in
theorem headBytes_lifted (os : Os) (started : os.Started) (H : Type) (enc : TypeId × Value → H) (F : Stop.Interp) :
    ReturnsInHanded {} Tryd.checked os 3 .any ((OpenSpec.ofChange Rows.headBytesSpec).preRow enc Tryd.prog Tryd.f3 Rows.headBytesRow.domain false Rows.headBytesRow.laid) (((OpenSpec.ofChange Rows.headBytesSpec).at F).post enc Tryd.prog Tryd.f3 false true false false) := by
  obtain ⟨places, hx⟩ := headBytes_reads os enc
  refine returnsInHanded_of_row (C := Tryd.checked) (s := OpenSpec.ofChange Rows.headBytesSpec) headBytes_own started (by kernel_rfl) Tryd.func3
    (witness_row_at (enc := enc) (C := Tryd.checked) false (headBytes_world os) #[.agg (hdL 0 zd zd).toArray] rfl (by kernel_rfl) (by kernel_rfl) (by kernel_rfl)
      (OpenSpec.preRow_of_cond 8 hx (by kernel_rfl) (fun k hk => by cases hk) (by kernel_rfl) (headBytes_met os))) ?_
  intro W base args ds gs before hval hW _ _ _ hL _ _
  exact headBytes_contract H enc W base args ds gs before hval hW hL
theorem headBytes_said : Rows.HeadBytesSaid :=
  OpenClaim.holds_of_cond 3 Tryd.f3 rfl rfl rfl rfl rfl rfl rfl ⟨rfl, rfl, rfl, rfl, rfl⟩ rfl rfl rfl rfl rfl (by kernel_rfl) Tryd.func3 (by kernel_rfl)
    (of_decide_eq_true (by kernel_rfl)) (by unfold Func.isWrapper; first | (rw [if_pos (by decide +kernel)]; kernel_rfl) | (rw [if_neg (by decide +kernel)]; exact ⟨rfl, rfl⟩))
    (fun os started H enc _ F => by rw [OpenClaim.pre_eq_preRow]; exact headBytes_lifted os started H enc F)
theorem headBytes_plain (f : FuncId) (fn : Func) (hf : Tryd.pinned.checked.prog.funcNamed "tabellion/tabellionlaw09.HeadBytes" = some f) (hfn : Tryd.pinned.checked.prog.funcs[f]? = some fn) :
    false = Tryd.pinned.checked.prog.looks [] ∧ ∀ (j : Nat) t, fn.params[j]? = some t → Tryd.pinned.checked.prog.wantsStandIn t = false := by
  obtain rfl : f = 3 := Option.some.inj ((show Tryd.prog.funcNamed "tabellion/tabellionlaw09.HeadBytes" = some 3 by kernel_rfl).symm.trans hf) |>.symm
  obtain rfl : fn = Tryd.f3 := (Option.some.inj (Tryd.func3.symm.trans hfn)).symm
  refine ⟨by kernel_rfl, fun j t ht => ?_⟩
  rw [Tryd.params3] at ht
  have hm := Array.mem_of_getElem? ht
  have hm : t = 25 := by simpa using hm
  rcases hm with rfl
  · exact (show Tryd.prog.wantsStandIn 25 = false by kernel_rfl)
theorem headBytes_card : Rows.HeadBytesCardSaid :=
  Claim7.holds_tied_plain_at .later [] _ _ _ _ headBytes_said (fun _ h => by cases h) (by kernel_rfl) (fun _ h => by cases h) headBytes_row_tie rfl ⟨rfl, rfl⟩ (by kernel_rfl) rfl headBytes_plain (by kernel_rfl)
end Go.Proofs.YtbckeoidnpfbnaaDoor
