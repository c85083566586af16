/- The law ClientBinds: whatever its arguments are, the call returns true and its arguments read as they did, where the listed tables hold what the program's text lays in them: the row, and its card, which ties that to the text. -/
import Derived.Test.YtfdmjjhgdbpfeaaDoorCBa11
import Derived.Test.YtfdmjjhgdbpfeaaDoorCBa12
import Derived.Test.YtfdmjjhgdbpfeaaDoorCards
import Derived.Test.YtfdmjjhgdbpfeaaDoorTie
import Derived.WalkKit
import Derived.ProofKit
import Derived.OpenShut
import Derived.ShutString
import Derived.Below
import Derived.Deep.DeepHandedRow
import Derived.Lib.LaidTab
import Derived.Stop.LaidErr
set_option linter.unusedVariables false
set_option linter.unusedSimpArgs false
namespace Go.Proofs.YtfdmjjhgdbpfeaaDoor
open Go.ChangeShapes Go.WideShapes Go.ChangeAt Go.RowKit Go.Sx
open Go.ChangeMaps (open_string shut_string)

theorem clientBinds_own : ownKnob Tryd.prog.godebug = none := by kernel_rfl
theorem clientBinds_laidOut : laidOutB Tryd.prog = true := by kernel_rfl
theorem clientBinds_len : KTi.length = 64 := by decide
theorem clientBinds_g0 : Tryd.prog.globalNamed "tabellion/sha.keys" = some 1 := by kernel_rfl
theorem clientBinds_t0 : (Tryd.prog.globals[1]?).map (·.type) = some 169 := by kernel_rfl
theorem clientBinds_tab0 {W : World} (h : laidMetH Tryd.prog Rows.clientBindsRow.laid W) : TabK KT 1 W := fun i hi => by
  have h1 : Lib.TabIs Tryd.prog W "tabellion/sha.keys" .u32 KTi := Lib.tabIs_of_head clientBinds_g0 clientBinds_t0 Tryd.underlying169 Tryd.underlying147 (by kernel_rfl) (by kernel_rfl) h
  have h2 := h1.cell clientBinds_g0 i (by rw [clientBinds_len]; exact hi)
  rw [h2, KTi_eq i hi]
set_option maxRecDepth 100000 in
theorem clientBinds_contract (H : Type) (enc : TypeId × Value → H) (W : World) (base : Nat) (args : Array Value) (ds gs : List (DataW H)) (before : List MemPlace)
    (hval0 : ∀ (j : Nat) t v, Tryd.f4.params[j]? = some t → args[j]? = some v → Value.okWide Tryd.prog W .any base t v)
    (hW : DataW.Whole enc Tryd.prog Tryd.f4.params.toList Rows.clientBindsSpec.vars false W args.toList ds gs before) (hL : laidMetH Tryd.prog Rows.clientBindsRow.laid W) :
    Calls Tryd.prog 4 args W fun e W' => ∃ v, e = .returned v ∧ Rows.clientBindsSpec.post enc Tryd.prog Tryd.f4 false true false false W args v W' := by
  have hval : ∀ (j : Nat) t v, Tryd.f4.params[j]? = some t → args[j]? = some v → Value.okWide Tryd.prog W .any base t v := hval0
  have hW' := hW
  obtain ⟨p, q, hA0, hV, rfl, hfz, hnd⟩ := hW
  have hA : DataW.TrodAll enc Tryd.prog W 0 (fun _ => true) true Tryd.f4.params.toList args.toList ds p := hA0
  rw [Tryd.params4] at hA hval
  obtain ⟨v0, vs0, d0, ds0, p0, q0, hargs, rfl, rfl, h0, r0⟩ := trodAll_cons hA
  obtain ⟨v1, vs1, d1, ds1, p1, q1, rfl, rfl, rfl, h1, r1⟩ := trodAll_cons r0
  obtain ⟨v2, vs2, d2, ds2, p2, q2, rfl, rfl, rfl, h2, r2⟩ := trodAll_cons r1
  obtain ⟨v3, vs3, d3, ds3, p3, q3, rfl, rfl, rfl, h3, r3⟩ := trodAll_cons r2
  obtain ⟨v4, vs4, d4, ds4, p4, q4, rfl, rfl, rfl, h4, r4⟩ := trodAll_cons r3
  obtain ⟨rfl, rfl, rfl⟩ := trodAll_nil r4
  obtain rfl : args = #[v0, v1, v2, v3, v4] := by cases args; simp_all
  obtain ⟨rfl, rfl⟩ := trodVars_none hV
  have k0 := h0
  have lt0 : ∀ x ∈ p0, x.block < W.heap.size := by obtain ⟨m, hm⟩ := k0; exact DataW.trod_lt m _ _ _ hm
  have k1 := h1
  have lt1 : ∀ x ∈ p1, x.block < W.heap.size := by obtain ⟨m, hm⟩ := k1; exact DataW.trod_lt m _ _ _ hm
  have k2 := h2
  have lt2 : ∀ x ∈ p2, x.block < W.heap.size := by obtain ⟨m, hm⟩ := k2; exact DataW.trod_lt m _ _ _ hm
  have k3 := h3
  have lt3 : ∀ x ∈ p3, x.block < W.heap.size := by obtain ⟨m, hm⟩ := k3; exact DataW.trod_lt m _ _ _ hm
  have k4 := h4
  have lt4 : ∀ x ∈ p4, x.block < W.heap.size := by obtain ⟨m, hm⟩ := k4; exact DataW.trod_lt m _ _ _ hm
  obtain ⟨x0, rfl, e0, f0, wx0⟩ := open_string Tryd.underlying9 (hval 0 9 v0 rfl rfl) h0
  obtain ⟨x1, rfl, e1, f1, wx1⟩ := open_string Tryd.underlying9 (hval 1 9 v1 rfl rfl) h1
  obtain ⟨x2, rfl, e2, f2, wx2⟩ := open_string Tryd.underlying9 (hval 2 9 v2 rfl rfl) h2
  obtain ⟨x3, u3, s3, rfl, lf3, bR3, sc3⟩ := open_rp (hval 3 34 v3 rfl rfl) h3
  obtain ⟨x4, u4, s4, rfl, lf4, bR4, sc4⟩ := open_rp (hval 4 34 v4 rfl rfl) h4
  clear hA0 hval0
  refine (ClientBinds_w x0 x1 x2 x3 u3 s3 x4 u4 s4 W lf3 lf4 sc3 sc4 bR3 bR4 (clientBinds_tab0 hL)).mono fun e W' ⟨he, hfr⟩ => ?_
  have bel := hfr.below
  subst he
  exact ⟨_, rfl, _, _, _, [], _, [], hW', trodAll_mk1 (shut_bool Tryd.underlying4 _), (trodAll_cons_mk (Below.trod clientBinds_laidOut (by kernel_rfl) (of_decide_eq_true (by kernel_rfl)) k0 bel lt0) (trodAll_cons_mk (Below.trod clientBinds_laidOut (by kernel_rfl) (of_decide_eq_true (by kernel_rfl)) k1 bel lt1) (trodAll_cons_mk (Below.trod clientBinds_laidOut (by kernel_rfl) (of_decide_eq_true (by kernel_rfl)) k2 bel lt2) (trodAll_cons_mk (Below.trod clientBinds_laidOut (by kernel_rfl) (of_decide_eq_true (by kernel_rfl)) k3 bel lt3) (trodAll_cons_mk (Below.trod clientBinds_laidOut (by kernel_rfl) (of_decide_eq_true (by kernel_rfl)) k4 bel lt4) trodAll_mk0))))), rfl, bel.frame _, fun h => by cases h⟩
noncomputable def clientBinds_world (os : Os) : World :=
  { (World.holding Tryd.prog os ⟨#[], #[], []⟩) with heap := ((World.holding Tryd.prog os ⟨#[], #[], []⟩).heap.modify 1 fun
    | .cells _ t frozen => .cells (wl KT).toArray t frozen
    | o => o) }
theorem clientBinds_met (os : Os) : laidMet Tryd.prog Rows.clientBindsRow.laid ((clientBinds_world os).forCall (fun _ _ => 0) ⟨#[], #[.string ⟨#[]⟩, .string ⟨#[]⟩, .string ⟨#[]⟩, .agg (rpM rp0 slN slN).toArray, .agg (rpM rp0 slN slN).toArray], []⟩).memory :=
  laidMet_of_run' 8 (by kernel_rfl) (by kernel_rfl)
theorem clientBinds_reads (os : Os) {H : Type} (enc : TypeId × Value → H) : ∃ places, DataW.whole enc Tryd.prog ((clientBinds_world os).forCall (fun _ _ => 0) ⟨#[], #[.string ⟨#[]⟩, .string ⟨#[]⟩, .string ⟨#[]⟩, .agg (rpM rp0 slN slN).toArray, .agg (rpM rp0 slN slN).toArray], []⟩).memory Tryd.f4.params.toList Rows.clientBindsSpec.vars false #[(.string ⟨#[]⟩ : Value), (.string ⟨#[]⟩ : Value), (.string ⟨#[]⟩ : Value), (.agg (rpM rp0 slN slN).toArray : Value), (.agg (rpM rp0 slN slN).toArray : Value)].toList 8 = some ([.lit (.string []), .lit (.string []), .lit (.string []), .agg [.lit (.int .i64 0), .lit (.int .i64 0), .lit (.int .i64 0), .lit (.int .i64 0), .lit (.int .i64 0), .nil, .agg [.nil, .lit (.bool false), .agg (List.replicate 32 (.lit (.int .u8 0))), .agg (List.replicate 32 (.lit (.int .u8 0)))], .agg [.agg [.lit (.int .i64 0), .agg (List.replicate 32 (.lit (.int .u8 0))), .agg (List.replicate 32 (.lit (.int .u8 0)))], .agg (List.replicate 32 (.lit (.int .u8 0)))]], .agg [.lit (.int .i64 0), .lit (.int .i64 0), .lit (.int .i64 0), .lit (.int .i64 0), .lit (.int .i64 0), .nil, .agg [.nil, .lit (.bool false), .agg (List.replicate 32 (.lit (.int .u8 0))), .agg (List.replicate 32 (.lit (.int .u8 0)))], .agg [.agg [.lit (.int .i64 0), .agg (List.replicate 32 (.lit (.int .u8 0))), .agg (List.replicate 32 (.lit (.int .u8 0)))], .agg (List.replicate 32 (.lit (.int .u8 0)))]]], [], places) :=
  ⟨[], by kernel_rfl⟩
set_option maxRecDepth 100000 in
theorem clientBinds_lifted (os : Os) (started : os.Started) (H : Type) (enc : TypeId × Value → H) (F : Stop.Interp) :
    ReturnsInHanded {} Tryd.checked os 4 .any ((OpenSpec.ofChange Rows.clientBindsSpec).preRow enc Tryd.prog Tryd.f4 Rows.clientBindsRow.domain false Rows.clientBindsRow.laid) (((OpenSpec.ofChange Rows.clientBindsSpec).at F).post enc Tryd.prog Tryd.f4 false true false false) := by
  obtain ⟨places, hx⟩ := clientBinds_reads os enc
  refine returnsInHanded_of_row (C := Tryd.checked) (s := OpenSpec.ofChange Rows.clientBindsSpec) clientBinds_own started (by kernel_rfl) Tryd.func4
    (witness_row_at (enc := enc) (C := Tryd.checked) false (clientBinds_world os) #[.string ⟨#[]⟩, .string ⟨#[]⟩, .string ⟨#[]⟩, .agg (rpM rp0 slN slN).toArray, .agg (rpM rp0 slN slN).toArray] rfl (by kernel_rfl) (by kernel_rfl) (by kernel_rfl)
      (OpenSpec.preRow_of_cond 8 hx (by kernel_rfl) (fun k hk => by cases hk) (by kernel_rfl) (clientBinds_met os))) ?_
  intro W base args ds gs before hval hW _ _ _ hL _ _
  exact clientBinds_contract H enc W base args ds gs before hval hW hL
theorem clientBinds_said : Rows.ClientBindsSaid :=
  OpenClaim.holds_of_cond 4 Tryd.f4 rfl rfl rfl rfl rfl rfl rfl ⟨rfl, rfl, rfl, rfl, rfl⟩ rfl rfl rfl rfl rfl (by kernel_rfl) Tryd.func4 (by kernel_rfl)
    (of_decide_eq_true (by kernel_rfl)) (by unfold Func.isWrapper; first | (rw [if_pos (by decide +kernel)]; kernel_rfl) | (rw [if_neg (by decide +kernel)]; exact ⟨rfl, rfl⟩))
    (fun os started H enc _ F => by rw [OpenClaim.pre_eq_preRow]; exact clientBinds_lifted os started H enc F)
theorem clientBinds_plain (f : FuncId) (fn : Func) (hf : Tryd.pinned.checked.prog.funcNamed "tabellion/tabellionlaw21.ClientBinds" = some f) (hfn : Tryd.pinned.checked.prog.funcs[f]? = some fn) :
    false = Tryd.pinned.checked.prog.looks [] ∧ ∀ (j : Nat) t, fn.params[j]? = some t → Tryd.pinned.checked.prog.wantsStandIn t = false := by
  obtain rfl : f = 4 := Option.some.inj ((show Tryd.prog.funcNamed "tabellion/tabellionlaw21.ClientBinds" = some 4 by kernel_rfl).symm.trans hf) |>.symm
  obtain rfl : fn = Tryd.f4 := (Option.some.inj (Tryd.func4.symm.trans hfn)).symm
  refine ⟨by kernel_rfl, fun j t ht => ?_⟩
  rw [Tryd.params4] at ht
  have hm := Array.mem_of_getElem? ht
  have hm : t = 9 ∨ t = 9 ∨ t = 9 ∨ t = 34 ∨ t = 34 := by simpa using hm
  rcases hm with rfl | rfl | rfl | rfl | rfl
  · exact (show Tryd.prog.wantsStandIn 9 = false by kernel_rfl)
  · exact (show Tryd.prog.wantsStandIn 9 = false by kernel_rfl)
  · exact (show Tryd.prog.wantsStandIn 9 = false by kernel_rfl)
  · exact (show Tryd.prog.wantsStandIn 34 = false by kernel_rfl)
  · exact (show Tryd.prog.wantsStandIn 34 = false by kernel_rfl)
theorem clientBinds_card : Rows.ClientBindsCardSaid :=
  Claim7.holds_tied_plain_at .later [] _ _ _ _ clientBinds_said (fun _ h => by cases h) (by kernel_rfl) (fun _ h => by cases h) clientBinds_row_tie rfl ⟨rfl, rfl⟩ (by kernel_rfl) rfl clientBinds_plain (by kernel_rfl)
end Go.Proofs.YtfdmjjhgdbpfeaaDoor
