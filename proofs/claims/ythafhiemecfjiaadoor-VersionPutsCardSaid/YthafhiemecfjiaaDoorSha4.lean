/- The sum of bytes, by layer 2 and by its reference. -/
import Derived.Test.YthafhiemecfjiaaDoorSha3
set_option linter.unusedVariables false
set_option linter.unusedSimpArgs false
set_option maxRecDepth 100000
namespace Go.Proofs.YthafhiemecfjiaaDoor
open Go.Sx
theorem bsA (w : World) : (Instr.buildSlice 23 3 [(0, .int .u8 97), (1, .int .u8 98), (2, .int .u8 99)].toArray).run Tryd.prog w = .ok (.slice (some ⟨w.heap.size, 0, none⟩) 3 3) (w.alloc (row 5 (dg [97, 98, 99]))) := by kernel_rfl
theorem sz28k : (Tryd.prog.info? 28).map (·.size) = some 32 := by kernel_rfl
theorem tx21k : Txt Tryd.prog 21 := txt_of Tryd.func21 rfl (by kernel_rfl)
theorem tx22k : Txt Tryd.prog 22 := txt_of Tryd.func22 rfl (by kernel_rfl)
theorem tx23k : Txt Tryd.prog 23 := txt_of Tryd.func23 rfl (by kernel_rfl)
theorem z28k : (Tryd.prog.info? 28).bind (·.zero) = some (.agg (dg zd).toArray) := by kernel_rfl

theorem write_nil (a : Option Addr) (n c : Nat) (w : World) :
    Calls Tryd.prog 22 #[.pointer none, .slice a n c] w fun e w' => e = .returned (.int .i64 3) ∧ Fr [] w w' := by
  refine calls_of (args := [.pointer none, .slice a n c]) ([]) ([]) ([]) Tryd.func22 rfl rfl (okW0 _ _ _ _) ?_
  refine J_seq ?_
  refine J_region ?_
  refine L_v rfl rfl rfl (V_assign rfl rfl) ?_
  refine L_nil ?_
  change J _ _ _ _
  refine J_seq ?_
  refine J_seq ?_
  refine J_region ?_
  refine L_v rfl rfl rfl (V_move rfl rfl) ?_
  refine L_v rfl rfl rfl (V_eqP rfl rfl rfl Tryd.underlying55 rfl) ?_
  refine L_nil ?_
  change J _ _ _ _
  refine J_true rfl ?_
  refine J_seq ?_
  refine J_region ?_
  refine L_v rfl rfl rfl (V_assign rfl rfl) ?_
  refine L_nil ?_
  change J _ _ _ _
  refine J_ret ?_
  change Kret _ _ _ Exit.ret _
  refine ret1 rfl rfl (RV_t rfl) ?_
  exact fun w' h => ⟨rfl, h.fr⟩

theorem hsum_nil (w : World) :
    Calls Tryd.prog 23 #[.pointer none] w fun e w' => e = .returned (.agg (dg zd).toArray) ∧ Fr [] w w' := by
  refine calls_of (args := [.pointer none]) ([]) ([]) ([]) Tryd.func23 rfl rfl (okW0 _ _ _ _) ?_
  refine J_seq ?_
  refine J_region ?_
  refine L_alloc rfl rfl rfl rfl z28k (fun b0 => ?_)
  refine L_nil ?_
  change J _ _ _ _
  refine J_seq ?_
  refine J_region ?_
  refine L_alloc rfl rfl rfl rfl z28k (fun b1 => ?_)
  refine L_nil ?_
  change J _ _ _ _
  refine J_seq ?_
  refine J_seq ?_
  refine J_region ?_
  refine L_v rfl rfl rfl (V_move rfl rfl) ?_
  refine L_v rfl rfl rfl (V_eqP rfl rfl rfl Tryd.underlying55 rfl) ?_
  refine L_nil ?_
  change J _ _ _ _
  refine J_true rfl ?_
  refine J_seq ?_
  refine J_region ?_
  refine L_v rfl rfl rfl (V_loadW 1 rfl rfl rfl Tryd.underlying28 rfl (szd sz28k (by first | (rw [dg_length]; exact shaP_len _) | rfl | (rw [dg_length]; assumption)))) ?_
  refine L_storeW 0 rfl rfl rfl rfl rfl rfl (szd sz28k (by first | (rw [dg_length]; exact shaP_len _) | rfl | (rw [dg_length]; assumption))) (by first | exact wl_one _ | exact hL_one _ _ _ | exact dg_one _) (by first | (rw [dg_length]; exact shaP_len _) | rfl | (rw [dg_length]; assumption)) ?_
  refine L_nil ?_
  change J _ _ _ _
  refine J_ret ?_
  change Kret _ _ _ Exit.ret _
  refine ret1 rfl rfl (RV_c 0 rfl rfl Tryd.underlying28 rfl (szd sz28k (by first | (rw [dg_length]; exact shaP_len _) | rfl | (rw [dg_length]; assumption)))) ?_
  exact fun w' h => ⟨rfl, h.fr⟩

theorem ssum_w (L : List Int) (a : Option Addr) (n c : Nat) (w : World) (hu : SlB w (.slice a n c) L) (hby : Byt L) (hcn : n ≤ c) (hK : TabK KT 0 w) (hsz : L.length ≤ 1099511627000) :
    Calls Tryd.prog 9 #[.slice a n c] w fun e w' => e = .returned (.agg (dg (shaP L)).toArray) ∧ Fr [] w w' := by
  refine calls_of (args := [.slice a n c]) ([]) ([]) ([]) Tryd.func9 rfl rfl (okW0 _ _ _ _) ?_
  refine J_seq ?_
  refine J_region ?_
  refine L_alloc rfl rfl rfl rfl z28k (fun b0 => ?_)
  refine L_nil ?_
  change J _ _ _ _
  refine J_seq ?_
  refine J_region ?_
  refine L_call rfl rfl rfl rfl tx21k (fun w1 hw => (hnew_w w1).mono ?_)
  rintro e w' ⟨b1, rfl, hfr1, hsz1, hb1⟩
  refine ⟨_, _, _, rfl, hw.add hfr1 hb1 hsz1, rfl, ?_⟩
  refine L_v rfl rfl rfl (V_assign rfl rfl) ?_
  refine L_nil ?_
  change J _ _ _ _
  refine J_seq ?_
  refine J_region ?_
  refine L_v rfl rfl rfl (V_move rfl rfl) ?_
  refine L_v rfl rfl rfl (V_move rfl rfl) ?_
  refine L_call rfl rfl rfl rfl tx22k (fun w1 hw => (write_w b1 R0 (List.replicate 64 0) [] L a n c w1 (hw.at (i := 1) rfl) hs0 (SlB.later hw rfl hu) (apF hu (hw.ge rfl (i := 1) rfl)) hby hcn (TabK.later hw (by simp) hK) fun e => by have h1 : w.heap.size ≤ b1 := hw.ge rfl (i := 1) rfl; have h2 := hK.lt; omega (by simp; omega)).mono ?_)
  rintro e w' ⟨ws2, bl2, rfl, hfr2, hb2, hs2⟩
  refine ⟨_, _, _, rfl, hw.set (i := 1) rfl hfr2 hb2, rfl, ?_⟩
  refine L_nil ?_
  change J _ _ _ _
  refine J_seq ?_
  refine J_region ?_
  refine L_v rfl rfl rfl (V_move rfl rfl) ?_
  refine L_callV rfl rfl rfl rfl rfl rfl tx23k (fun w1 hw => hsum_w b1 ws2 bl2 ([] ++ L) w1 (by have h9 := hw.at (i := 1) rfl; rw [show ([] : List Int).length + L.length = L.length by simp] at h9; exact h9) hs2 (TabK.later hw (by simp) hK) (by show L.length ≤ _; omega)) ?_
  refine L_storeW 0 rfl rfl rfl rfl rfl rfl (szd sz28k (by first | (rw [dg_length]; exact shaP_len _) | rfl | (rw [dg_length]; assumption))) (by first | exact wl_one _ | exact hL_one _ _ _ | exact dg_one _) (by first | (rw [dg_length]; exact shaP_len _) | rfl | (rw [dg_length]; assumption)) ?_
  refine L_nil ?_
  change J _ _ _ _
  refine J_ret ?_
  change Kret _ _ _ Exit.ret _
  refine ret1 rfl rfl (RV_c 0 rfl rfl Tryd.underlying28 rfl (szd sz28k (by first | (rw [dg_length]; exact shaP_len _) | rfl | (rw [dg_length]; assumption)))) ?_
  exact fun w' h => ⟨rfl, h.fr⟩

end Go.Proofs.YthafhiemecfjiaaDoor
