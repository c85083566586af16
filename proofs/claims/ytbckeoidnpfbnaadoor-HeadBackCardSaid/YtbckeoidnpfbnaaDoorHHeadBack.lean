/- The law HeadBack: whatever its arguments are, the call returns true and its arguments read as they did, where the listed tables hold what the program's text lays in them: the row, and its card, which ties that to the text. -/
import Derived.Test.YtbckeoidnpfbnaaDoorWHeadBack
import Derived.Test.YtbckeoidnpfbnaaDoorHeadOpen
import Derived.Test.YtbckeoidnpfbnaaDoorSignedOpen
import Derived.Test.YtbckeoidnpfbnaaDoorCards
import Derived.Test.YtbckeoidnpfbnaaDoorTie
import Derived.WalkKit
import Derived.ProofKit
import Derived.OpenShut
import Derived.ShutString
import Derived.Below
import Derived.Deep.DeepHandedRow
import Derived.Lib.LaidTab
import Derived.Stop.LaidErr
set_option linter.unusedVariables false
set_option linter.unusedSimpArgs false
namespace Go.Proofs.YtbckeoidnpfbnaaDoor
open Go.ChangeShapes Go.WideShapes Go.ChangeAt Go.RowKit Go.Sx
open Go.ChangeMaps (open_string shut_string)

theorem headBack_own : ownKnob Tryd.prog.godebug = none := by kernel_rfl
theorem headBack_laidOut : laidOutB Tryd.prog = true := by kernel_rfl
theorem headBack_len : KTi.length = 64 := by decide
theorem headBack_g0 : Tryd.prog.globalNamed "tabellion/sha.keys" = some 0 := by kernel_rfl
theorem headBack_t0 : (Tryd.prog.globals[0]?).map (·.type) = some 78 := by kernel_rfl
theorem headBack_tab0 {W : World} (h : laidMetH Tryd.prog Rows.headBackRow.laid W) : TabK KT 0 W := fun i hi => by
  have h1 : Lib.TabIs Tryd.prog W "tabellion/sha.keys" .u32 KTi := Lib.tabIs_of_head headBack_g0 headBack_t0 Tryd.underlying78 Tryd.underlying70 (by kernel_rfl) (by kernel_rfl) h
  have h2 := h1.cell headBack_g0 i (by rw [headBack_len]; exact hi)
  rw [h2, KTi_eq i hi]
set_option maxRecDepth 100000 in
theorem headBack_contract (H : Type) (enc : TypeId × Value → H) (W : World) (base : Nat) (args : Array Value) (ds gs : List (DataW H)) (before : List MemPlace)
    (hval0 : ∀ (j : Nat) t v, Tryd.f6.params[j]? = some t → args[j]? = some v → Value.okWide Tryd.prog W .any base t v)
    (hW : DataW.Whole enc Tryd.prog Tryd.f6.params.toList Rows.headBackSpec.vars false W args.toList ds gs before) (hL : laidMetH Tryd.prog Rows.headBackRow.laid W) :
    Calls Tryd.prog 6 args W fun e W' => ∃ v, e = .returned v ∧ Rows.headBackSpec.post enc Tryd.prog Tryd.f6 false true false false W args v W' := by
  have hval : ∀ (j : Nat) t v, Tryd.f6.params[j]? = some t → args[j]? = some v → Value.okWide Tryd.prog W .any base t v := hval0
  have hW' := hW
  obtain ⟨p, q, hA0, hV, rfl, hfz, hnd⟩ := hW
  have hA : DataW.TrodAll enc Tryd.prog W 0 (fun _ => true) true Tryd.f6.params.toList args.toList ds p := hA0
  rw [Tryd.params6] at hA hval
  obtain ⟨v0, vs0, d0, ds0, p0, q0, hargs, rfl, rfl, h0, r0⟩ := trodAll_cons hA
  obtain ⟨v1, vs1, d1, ds1, p1, q1, rfl, rfl, rfl, h1, r1⟩ := trodAll_cons r0
  obtain ⟨v2, vs2, d2, ds2, p2, q2, rfl, rfl, rfl, h2, r2⟩ := trodAll_cons r1
  obtain ⟨v3, vs3, d3, ds3, p3, q3, rfl, rfl, rfl, h3, r3⟩ := trodAll_cons r2
  obtain ⟨rfl, rfl, rfl⟩ := trodAll_nil r3
  obtain rfl : args = #[v0, v1, v2, v3] := by cases args; simp_all
  obtain ⟨rfl, rfl⟩ := trodVars_none hV
  have k0 := h0
  have lt0 : ∀ x ∈ p0, x.block < W.heap.size := by obtain ⟨m, hm⟩ := k0; exact DataW.trod_lt m _ _ _ hm
  have k1 := h1
  have lt1 : ∀ x ∈ p1, x.block < W.heap.size := by obtain ⟨m, hm⟩ := k1; exact DataW.trod_lt m _ _ _ hm
  have k2 := h2
  have lt2 : ∀ x ∈ p2, x.block < W.heap.size := by obtain ⟨m, hm⟩ := k2; exact DataW.trod_lt m _ _ _ hm
  have k3 := h3
  have lt3 : ∀ x ∈ p3, x.block < W.heap.size := by obtain ⟨m, hm⟩ := k3; exact DataW.trod_lt m _ _ _ hm
  obtain ⟨x0, rfl, e0, f0, wx0⟩ := open_string Tryd.underlying9 (hval 0 9 v0 rfl rfl) h0
  obtain ⟨x1, y1, z1, rfl, lx1, lz1, bx1, bz1⟩ := open_head (hval 1 25 v1 rfl rfl) h1
  obtain ⟨x2, rfl, e2, f2, wx2⟩ := open_int Tryd.underlying3 (hval 2 3 v2 rfl rfl) h2
  obtain ⟨x3, rfl, e3, f3, wx3⟩ := open_int Tryd.underlying5 (hval 3 5 v3 rfl rfl) h3
  clear hA0 hval0
  refine (HeadBack_w x0 x1 y1 z1 x2 x3 W lx1 lz1 bx1 bz1 wx2 wx3 (headBack_tab0 hL)).mono fun e W' ⟨he, hfr⟩ => ?_
  have bel := hfr.below
  subst he
  exact ⟨_, rfl, _, _, _, [], _, [], hW', trodAll_mk1 (shut_bool Tryd.underlying4 _), (trodAll_cons_mk (Below.trod headBack_laidOut (by kernel_rfl) (of_decide_eq_true (by kernel_rfl)) k0 bel lt0) (trodAll_cons_mk (Below.trod headBack_laidOut (by kernel_rfl) (of_decide_eq_true (by kernel_rfl)) k1 bel lt1) (trodAll_cons_mk (Below.trod headBack_laidOut (by kernel_rfl) (of_decide_eq_true (by kernel_rfl)) k2 bel lt2) (trodAll_cons_mk (Below.trod headBack_laidOut (by kernel_rfl) (of_decide_eq_true (by kernel_rfl)) k3 bel lt3) trodAll_mk0)))), rfl, bel.frame _, fun h => by cases h⟩
noncomputable def headBack_world (os : Os) : World :=
  { (World.holding Tryd.prog os ⟨#[], #[], []⟩) with heap := ((World.holding Tryd.prog os ⟨#[], #[], []⟩).heap.modify 0 fun
    | .cells _ t frozen => .cells (wl KT).toArray t frozen
    | o => o) }
theorem headBack_met (os : Os) : laidMet Tryd.prog Rows.headBackRow.laid ((headBack_world os).forCall (fun _ _ => 0) ⟨#[], #[.string ⟨#[]⟩, .agg (hdL 0 zd zd).toArray, .int .i64 0, .int .u8 0], []⟩).memory :=
  laidMet_of_run' 8 (by kernel_rfl) (by kernel_rfl)
theorem headBack_reads (os : Os) {H : Type} (enc : TypeId × Value → H) : ∃ places, DataW.whole enc Tryd.prog ((headBack_world os).forCall (fun _ _ => 0) ⟨#[], #[.string ⟨#[]⟩, .agg (hdL 0 zd zd).toArray, .int .i64 0, .int .u8 0], []⟩).memory Tryd.f6.params.toList Rows.headBackSpec.vars false #[(.string ⟨#[]⟩ : Value), (.agg (hdL 0 zd zd).toArray : Value), (.int .i64 0 : Value), (.int .u8 0 : Value)].toList 8 = some ([.lit (.string []), .agg [.lit (.int .i64 0), .agg (List.replicate 32 (.lit (.int .u8 0))), .agg (List.replicate 32 (.lit (.int .u8 0)))], .lit (.int .i64 0), .lit (.int .u8 0)], [], places) :=
  ⟨[], by kernel_rfl⟩
set_option maxRecDepth 100000 in
theorem headBack_lifted (os : Os) (started : os.Started) (H : Type) (enc : TypeId × Value → H) (F : Stop.Interp) :
    ReturnsInHanded {} Tryd.checked os 6 .any ((OpenSpec.ofChange Rows.headBackSpec).preRow enc Tryd.prog Tryd.f6 Rows.headBackRow.domain false Rows.headBackRow.laid) (((OpenSpec.ofChange Rows.headBackSpec).at F).post enc Tryd.prog Tryd.f6 false true false false) := by
  obtain ⟨places, hx⟩ := headBack_reads os enc
  refine returnsInHanded_of_row (C := Tryd.checked) (s := OpenSpec.ofChange Rows.headBackSpec) headBack_own started (by kernel_rfl) Tryd.func6
    (witness_row_at (enc := enc) (C := Tryd.checked) false (headBack_world os) #[.string ⟨#[]⟩, .agg (hdL 0 zd zd).toArray, .int .i64 0, .int .u8 0] rfl (by kernel_rfl) (by kernel_rfl) (by kernel_rfl)
      (OpenSpec.preRow_of_cond 8 hx (by kernel_rfl) (fun k hk => by cases hk) (by kernel_rfl) (headBack_met os))) ?_
  intro W base args ds gs before hval hW _ _ _ hL _ _
  exact headBack_contract H enc W base args ds gs before hval hW hL
theorem headBack_said : Rows.HeadBackSaid :=
  OpenClaim.holds_of_cond 6 Tryd.f6 rfl rfl rfl rfl rfl rfl rfl ⟨rfl, rfl, rfl, rfl, rfl⟩ rfl rfl rfl rfl rfl (by kernel_rfl) Tryd.func6 (by kernel_rfl)
    (of_decide_eq_true (by kernel_rfl)) (by unfold Func.isWrapper; first | (rw [if_pos (by decide +kernel)]; kernel_rfl) | (rw [if_neg (by decide +kernel)]; exact ⟨rfl, rfl⟩))
    (fun os started H enc _ F => by rw [OpenClaim.pre_eq_preRow]; exact headBack_lifted os started H enc F)
theorem headBack_plain (f : FuncId) (fn : Func) (hf : Tryd.pinned.checked.prog.funcNamed "tabellion/tabellionlaw09.HeadBack" = some f) (hfn : Tryd.pinned.checked.prog.funcs[f]? = some fn) :
    false = Tryd.pinned.checked.prog.looks [] ∧ ∀ (j : Nat) t, fn.params[j]? = some t → Tryd.pinned.checked.prog.wantsStandIn t = false := by
  obtain rfl : f = 6 := Option.some.inj ((show Tryd.prog.funcNamed "tabellion/tabellionlaw09.HeadBack" = some 6 by kernel_rfl).symm.trans hf) |>.symm
  obtain rfl : fn = Tryd.f6 := (Option.some.inj (Tryd.func6.symm.trans hfn)).symm
  refine ⟨by kernel_rfl, fun j t ht => ?_⟩
  rw [Tryd.params6] at ht
  have hm := Array.mem_of_getElem? ht
  have hm : t = 9 ∨ t = 25 ∨ t = 3 ∨ t = 5 := by simpa using hm
  rcases hm with rfl | rfl | rfl | rfl
  · exact (show Tryd.prog.wantsStandIn 9 = false by kernel_rfl)
  · exact (show Tryd.prog.wantsStandIn 25 = false by kernel_rfl)
  · exact (show Tryd.prog.wantsStandIn 3 = false by kernel_rfl)
  · exact (show Tryd.prog.wantsStandIn 5 = false by kernel_rfl)
theorem headBack_card : Rows.HeadBackCardSaid :=
  Claim7.holds_tied_plain_at .later [] _ _ _ _ headBack_said (fun _ h => by cases h) (by kernel_rfl) (fun _ h => by cases h) headBack_row_tie rfl ⟨rfl, rfl⟩ (by kernel_rfl) rfl headBack_plain (by kernel_rfl)
end Go.Proofs.YtbckeoidnpfbnaaDoor
