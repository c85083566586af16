/- The law DiskNil: whatever its arguments are, the call returns true and its arguments read as they did, where the listed tables hold what the program's text lays in them: the row, and its card, which ties that to the text. -/
import Derived.Test.YtcbpgnjlbbjieaaDoorWDiskNil
import Derived.Test.YtcbpgnjlbbjieaaDoorDOpen
import Derived.Test.YtcbpgnjlbbjieaaDoorCards
import Derived.Test.YtcbpgnjlbbjieaaDoorTie
import Derived.WalkKit
import Derived.ProofKit
import Derived.OpenShut
import Derived.ShutString
import Derived.Below
import Derived.Deep.DeepHandedRow
import Derived.Lib.LaidTab
import Derived.Stop.LaidErr
set_option linter.unusedVariables false
set_option linter.unusedSimpArgs false
namespace Go.Proofs.YtcbpgnjlbbjieaaDoor
open Go.ChangeShapes Go.WideShapes Go.ChangeAt Go.RowKit Go.Sx
open Go.ChangeMaps (open_string shut_string)

theorem diskNil_own : ownKnob Tryd.prog.godebug = none := by kernel_rfl
theorem diskNil_laidOut : laidOutB Tryd.prog = true := by kernel_rfl
set_option maxRecDepth 100000 in
theorem diskNil_contract (H : Type) (enc : TypeId × Value → H) (W : World) (base : Nat) (args : Array Value) (ds gs : List (DataW H)) (before : List MemPlace)
    (hval0 : ∀ (j : Nat) t v, Tryd.f8.params[j]? = some t → args[j]? = some v → Value.okWide Tryd.prog W .any base t v)
    (hW : DataW.Whole enc Tryd.prog Tryd.f8.params.toList Rows.diskNilSpec.vars false W args.toList ds gs before) (hL : laidMetH Tryd.prog Rows.diskNilRow.laid W) :
    Calls Tryd.prog 8 args W fun e W' => ∃ v, e = .returned v ∧ Rows.diskNilSpec.post enc Tryd.prog Tryd.f8 false true false false W args v W' := by
  have hval : ∀ (j : Nat) t v, Tryd.f8.params[j]? = some t → args[j]? = some v → Value.okWide Tryd.prog W .any base t v := hval0
  have hW' := hW
  obtain ⟨p, q, hA0, hV, rfl, hfz, hnd⟩ := hW
  have hA : DataW.TrodAll enc Tryd.prog W 0 (fun _ => true) true Tryd.f8.params.toList args.toList ds p := hA0
  rw [Tryd.params8] at hA hval
  obtain ⟨v0, vs0, d0, ds0, p0, q0, hargs, rfl, rfl, h0, r0⟩ := trodAll_cons hA
  obtain ⟨rfl, rfl, rfl⟩ := trodAll_nil r0
  obtain rfl : args = #[v0] := by cases args; simp_all
  obtain ⟨rfl, rfl⟩ := trodVars_none hV
  have k0 := h0
  have lt0 : ∀ x ∈ p0, x.block < W.heap.size := by obtain ⟨m, hm⟩ := k0; exact DataW.trod_lt m _ _ _ hm
  obtain ⟨x0, rfl, sx0⟩ := open_op (hval 0 47 v0 rfl rfl) h0
  clear hA0 hval0
  refine (DiskNil_w x0 W (.cons sx0 .nil) ).mono fun e W' ⟨he, hfr⟩ => ?_
  have bel := hfr.below
  subst he
  exact ⟨_, rfl, _, _, _, [], _, [], hW', trodAll_mk1 (shut_bool Tryd.underlying4 _), (trodAll_cons_mk (Below.trod diskNil_laidOut (by kernel_rfl) (of_decide_eq_true (by kernel_rfl)) k0 bel lt0) trodAll_mk0), rfl, bel.frame _, fun h => by cases h⟩
def diskNil_acc : List Value := [128, 191, 160, 191, 128, 159, 144, 191, 128, 143, 0, 0, 0, 0, 0, 0, 0, 0, 0, 0, 0, 0, 0, 0, 0, 0, 0, 0, 0, 0, 0, 0].map fun n : Int => .int .u8 n
def diskNil_fst : List Value := Go.Pinned.utf8FirstZ.map fun n : Nat => .int .u8 (n : Int)
noncomputable def diskNil_world (os : Os) : World :=
  { (World.holding Tryd.prog os ⟨#[], #[], []⟩) with heap := (((World.holding Tryd.prog os ⟨#[], #[], []⟩).heap.modify 1 fun
    | .cells _ t frozen => .cells (diskNil_acc).toArray t frozen
    | o => o).modify 0 fun
    | .cells _ t frozen => .cells (diskNil_fst).toArray t frozen
    | o => o) }
theorem diskNil_met (os : Os) : laidMet Tryd.prog Rows.diskNilRow.laid ((diskNil_world os).forCall (fun _ _ => 0) ⟨#[], #[.agg #[.int .i64 0, .string ⟨#[]⟩, .string ⟨#[]⟩, .slice none 0 0, .int .i64 0, .slice none 0 0, .int .u8 0]], []⟩).memory :=
  laidMet_of_run' 8 (by kernel_rfl) (by kernel_rfl)
theorem diskNil_reads (os : Os) {H : Type} (enc : TypeId × Value → H) : ∃ places, DataW.whole enc Tryd.prog ((diskNil_world os).forCall (fun _ _ => 0) ⟨#[], #[.agg #[.int .i64 0, .string ⟨#[]⟩, .string ⟨#[]⟩, .slice none 0 0, .int .i64 0, .slice none 0 0, .int .u8 0]], []⟩).memory Tryd.f8.params.toList Rows.diskNilSpec.vars false #[(.agg #[.int .i64 0, .string ⟨#[]⟩, .string ⟨#[]⟩, .slice none 0 0, .int .i64 0, .slice none 0 0, .int .u8 0] : Value)].toList 8 = some ([.agg [.lit (.int .i64 0), .lit (.string []), .lit (.string []), .nil, .lit (.int .i64 0), .nil, .lit (.int .u8 0)]], [], places) :=
  ⟨[], by kernel_rfl⟩
set_option maxRecDepth 100000 in
theorem diskNil_lifted (os : Os) (started : os.Started) (H : Type) (enc : TypeId × Value → H) (F : Stop.Interp) :
    ReturnsInHanded {} Tryd.checked os 8 .any ((OpenSpec.ofChange Rows.diskNilSpec).preRow enc Tryd.prog Tryd.f8 Rows.diskNilRow.domain false Rows.diskNilRow.laid) (((OpenSpec.ofChange Rows.diskNilSpec).at F).post enc Tryd.prog Tryd.f8 false true false false) := by
  obtain ⟨places, hx⟩ := diskNil_reads os enc
  refine returnsInHanded_of_row (C := Tryd.checked) (s := OpenSpec.ofChange Rows.diskNilSpec) diskNil_own started (by kernel_rfl) Tryd.func8
    (witness_row_at (enc := enc) (C := Tryd.checked) false (diskNil_world os) #[.agg #[.int .i64 0, .string ⟨#[]⟩, .string ⟨#[]⟩, .slice none 0 0, .int .i64 0, .slice none 0 0, .int .u8 0]] rfl (by kernel_rfl) (by kernel_rfl) (by kernel_rfl)
      (OpenSpec.preRow_of_cond 8 hx (by kernel_rfl) (fun k hk => by cases hk) (by kernel_rfl) (diskNil_met os))) ?_
  intro W base args ds gs before hval hW _ _ _ hL _ _
  exact diskNil_contract H enc W base args ds gs before hval hW hL
theorem diskNil_said : Rows.DiskNilSaid :=
  OpenClaim.holds_of_cond 8 Tryd.f8 rfl rfl rfl rfl rfl rfl rfl ⟨rfl, rfl, rfl, rfl, rfl⟩ rfl rfl rfl rfl rfl (by kernel_rfl) Tryd.func8 (by kernel_rfl)
    (of_decide_eq_true (by kernel_rfl)) (by unfold Func.isWrapper; first | (rw [if_pos (by decide +kernel)]; kernel_rfl) | (rw [if_neg (by decide +kernel)]; exact ⟨rfl, rfl⟩))
    (fun os started H enc _ F => by rw [OpenClaim.pre_eq_preRow]; exact diskNil_lifted os started H enc F)
theorem diskNil_plain (f : FuncId) (fn : Func) (hf : Tryd.pinned.checked.prog.funcNamed "tabellion/tabellionlaw11.DiskNil" = some f) (hfn : Tryd.pinned.checked.prog.funcs[f]? = some fn) :
    true = Tryd.pinned.checked.prog.looks [] ∧ ∀ (j : Nat) t, fn.params[j]? = some t → Tryd.pinned.checked.prog.wantsStandIn t = false := by
  obtain rfl : f = 8 := Option.some.inj ((show Tryd.prog.funcNamed "tabellion/tabellionlaw11.DiskNil" = some 8 by kernel_rfl).symm.trans hf) |>.symm
  obtain rfl : fn = Tryd.f8 := (Option.some.inj (Tryd.func8.symm.trans hfn)).symm
  refine ⟨by kernel_rfl, fun j t ht => ?_⟩
  rw [Tryd.params8] at ht
  have hm := Array.mem_of_getElem? ht
  have hm : t = 47 := by simpa using hm
  rcases hm with rfl
  · exact (show Tryd.prog.wantsStandIn 47 = false by kernel_rfl)
theorem diskNil_card : Rows.DiskNilCardSaid :=
  Claim7.holds_tied_plain_at .later [] _ _ _ _ diskNil_said (fun _ h => by cases h) (by kernel_rfl) (fun _ h => by cases h) diskNil_row_tie rfl ⟨rfl, rfl⟩ (by kernel_rfl) rfl diskNil_plain (by kernel_rfl)
end Go.Proofs.YtcbpgnjlbbjieaaDoor
