/- The test of directories; what a law is handed as a directory. -/
import Derived.Test.YtfgcfjojpakpjaaGreatWSameD
set_option linter.unusedVariables false
set_option linter.unusedSimpArgs false
set_option maxRecDepth 100000
namespace Go.Proofs.YtfgcfjojpakpjaaGreat
open Go.Sx
def vT : Vr := (1, 1, ⟨#[107]⟩)
def uT : Us := (⟨#[117]⟩, [vT])
def dT : Dr := (2, [uT], [], [])
abbrev pT (b : Nat) : Us × Value := (uT, .slice (some ⟨b, 0, none⟩) 1 1)
def MT : List Int := [2, 1, 1, 117, 1, 1, 1, 1, 107, 0, 0]
theorem encT0 : encTs (drC.tk dT) = .ok MT := by rfl
theorem bytT : Byt MT := by
  show ∀ x ∈ MT, 0 ≤ x ∧ x < 256
  decide
theorem getW_dr0 : getW drC [] = none := by rfl
theorem bdT1 (w : World) : (Instr.build 109 [(0, .int .i64 1), (1, .int .i64 1), (2, .string ⟨#[107]⟩)].toArray).run Tryz.prog w = .ok (.agg (vrV vT).toArray) w := by kernel_rfl
theorem bdT2 (b : Nat) (w : World) : (Instr.build 103 [(0, .string ⟨#[117]⟩), (1, .slice (some ⟨b, 0, none⟩) 1 1)].toArray).run Tryz.prog w = .ok (.agg (usW (pT b)).toArray) w := by kernel_rfl
theorem bdT3 (b : Nat) (w : World) : (Instr.build 63 [(0, .int .i64 2), (1, .slice (some ⟨b, 0, none⟩) 1 1)].toArray).run Tryz.prog w = .ok (.agg (drV 2 (.slice (some ⟨b, 0, none⟩) 1 1) nilB nilB).toArray) w := by kernel_rfl
theorem fwT {cx : Cx} {m : Mem} {fs : List Fact} {w : World} {b0 b1 : Nat} (h : OkW cx ((b0, row 109 (vrV vT)) :: (b1, row 103 (usW (pT b0))) :: m) fs w) :
    FW w (factC 2 (.slice (some ⟨b1, 0, none⟩) 1 1) 1 ([pT b0].map usW).flatten :: factC 65 nilB 0 [] :: factC 4 nilB 0 [] :: [pT b0].map usF) := by
  have h1 : SlC 2 w (.slice (some ⟨b1, 0, none⟩) 1 1) 1 ([pT b0].map usW).flatten := SlC.of_own h (i := 1) (ks := ([pT b0].map usW).flatten) (r := []) rfl rfl 1
  have h2 : SlC 3 w (.slice (some ⟨b0, 0, none⟩) 1 1) 1 ([vT].map vrV).flatten := SlC.of_own h (i := 0) (ks := ([vT].map vrV).flatten) (r := []) rfl rfl 1
  have h3 : ∀ sz, SlC sz w nilB 0 [] := fun sz => .inl ⟨rfl, rfl, none, 0, rfl⟩
  exact .cons ⟨h1, factC_lt h1⟩ (.cons ⟨h3 65, factC_lt (h3 65)⟩ (.cons ⟨h3 4, factC_lt (h3 4)⟩ (.cons ⟨h2, factC_lt h2⟩ .nil)))
theorem sz_one {w : World} {us : List (Us × Value)} (hus : us.map Prod.fst = [uT]) (h : ∀ f ∈ us.map usF, f.p w) : ∃ a c, us = [(uT, .slice a 1 c)] := by
  cases us with
  | nil => cases hus
  | cons p r =>
    obtain ⟨x, v⟩ := p
    simp only [List.map_cons, List.cons.injEq, List.map_eq_nil_iff] at hus
    obtain ⟨rfl, rfl⟩ := hus
    obtain ⟨a, c, e⟩ := SlC.form (h _ (List.mem_cons_self ..))
    exact ⟨a, c, by rw [show v = .slice a 1 c from e]⟩
theorem sz3d : (Tryz.prog.info? 3).map (·.size) = some 1 := by kernel_rfl
theorem sz59d : (Tryz.prog.info? 59).map (·.size) = some 1 := by kernel_rfl
theorem sz63d : (Tryz.prog.info? 63).map (·.size) = some 4 := by kernel_rfl
theorem sz101d : (Tryz.prog.info? 101).map (·.size) = some 1 := by kernel_rfl
theorem sz103d : (Tryz.prog.info? 103).map (·.size) = some 2 := by kernel_rfl
theorem tx18d : Txt Tryz.prog 18 := txt_of Tryz.func18 rfl (by kernel_rfl)
theorem tx20d : Txt Tryz.prog 20 := txt_of Tryz.func20 rfl (by kernel_rfl)
theorem z63d : (Tryz.prog.info? 63).bind (·.zero) = some (.agg [.int .i64 0, .slice none 0 0, .slice none 0 0, .slice none 0 0].toArray) := by kernel_rfl

set_option maxHeartbeats 2000000 in
theorem directories_t (w : World) :
    Calls Tryz.prog 26 #[] w fun e w' => e = .returned (.bool true) ∧ Fr [] w w' := by
  refine calls_of (args := []) ([]) ([]) ([]) Tryz.func26 rfl rfl (okW0 _ _ _ _) ?_
  refine J_seq ?_
  refine J_region ?_
  refine L_v rfl rfl rfl (V_assign rfl rfl) ?_
  refine L_nil ?_
  change J _ _ _ _
  refine J_seq ?_
  refine J_region ?_
  refine L_v rfl rfl rfl (V_build (vs := [(0, .int .i64 1), (1, .int .i64 1), (2, .string ⟨#[107]⟩)]) rfl rfl bdT1) ?_
  refine L_buildSlice (vs := [(0, .agg (vrV vT).toArray)]) (l := vrV vT) rfl rfl rfl rfl rfl (bsV _) (fun b0 => ?_)
  refine L_v rfl rfl rfl (V_build (vs := [(0, .string ⟨#[117]⟩), (1, .slice (some ⟨b0, 0, none⟩) 1 1)]) rfl rfl (bdT2 b0)) ?_
  refine L_buildSlice (vs := [(0, .agg (usW (pT b0)).toArray)]) (l := usW (pT b0)) rfl rfl rfl rfl rfl (bsU _) (fun b1 => ?_)
  refine L_v rfl rfl rfl (V_build (vs := [(0, .int .i64 2), (1, .slice (some ⟨b1, 0, none⟩) 1 1)]) rfl rfl (bdT3 b1)) ?_
  refine L_alloc rfl rfl rfl rfl z63d (fun b2 => ?_)
  refine L_storeW 2 rfl rfl rfl rfl rfl rfl (szd sz63d rfl) (all_one (by kernel_rfl)) rfl ?_
  refine L_nil ?_
  change J _ _ _ _
  refine J_seq ?_
  refine J_region ?_
  refine L_v rfl rfl rfl (V_loadW 2 rfl rfl rfl Tryz.underlying63 rfl (szd sz63d rfl)) ?_
  refine L_call rfl rfl rfl rfl tx20d (fun w1 hw => (putdirectory_w (some ⟨b1, 0, none⟩) none none 1 0 0 2 [pT b0] [] [] w1 (fwT hw) (Nat.le_of_ble_eq_true (by kernel_rfl))).mono ?_)
  rw [show encTs (drC.tk (2, [pT b0].map Prod.fst, [], [])) = .ok MT from encT0]
  rintro e w' ⟨hfr, a1, n1, c1, rfl, hs1, hc1, hn1⟩
  have hnw1 : ∀ k, (factB (.slice a1 n1 c1) MT).fp k → w.heap.size ≤ k := fun j hk => Nat.le_trans hw.fr.size (hn1 j hk)
  refine ⟨_, _, _, rfl, OkW.fr0F hw (fs2 := [factB (.slice a1 n1 c1) MT]) hfr (fun f hf => by obtain rfl := List.mem_singleton.1 hf; exact ⟨hs1, fun j hk => ⟨hn1 j hk, factB_lt hs1 j hk⟩⟩), rfl, ?_⟩
  refine L_v rfl rfl rfl (V_move rfl rfl) ?_
  refine L_v rfl rfl rfl (V_extract rfl rfl rfl) ?_
  refine L_v rfl rfl rfl (V_extract rfl rfl rfl) ?_
  refine L_v rfl rfl rfl (V_assign rfl rfl) ?_
  refine L_v rfl rfl rfl (V_assign rfl rfl) ?_
  refine L_nil ?_
  change J _ _ _ _
  refine J_seq ?_
  refine J_region ?_
  refine L_v rfl rfl rfl (V_move rfl rfl) ?_
  refine L_call rfl rfl rfl rfl tx18d (fun w1 hw => (getdirectory_w a1 n1 c1 MT w1 (fB hw 0 rfl) bytT hc1 (by first | decide | omega)).mono ?_)
  rw [getW_put drC encT0]
  rintro e w' ⟨hfr, v, fs, rfl, hV, hf9⟩
  have hnw9 : ∀ f ∈ fs, ∀ k, f.fp k → w.heap.size ≤ k := fun f hf j hk => Nat.le_trans hw.fr.size ((hf9 f hf).2 j hk).1
  obtain ⟨us, ya1, yc1, ya2, yc2, ya3, yc3, hus, rfl, rfl⟩ := hV
  obtain ⟨xa, xc, rfl⟩ := sz_one (w := w') hus (fun f hf => (hf9 f (List.mem_append_left _ (List.mem_append_left _ (List.mem_cons_of_mem _ hf)))).1)
  refine ⟨_, _, _, rfl, OkW.fr0F hw hfr hf9, rfl, ?_⟩
  refine L_v rfl rfl rfl (V_move rfl rfl) ?_
  refine L_v rfl rfl rfl (V_extract rfl rfl rfl) ?_
  refine L_v rfl rfl rfl (V_extract rfl rfl rfl) ?_
  refine L_alloc rfl rfl rfl rfl z63d (fun b3 => ?_)
  refine L_storeW 3 rfl rfl rfl rfl rfl rfl (szd sz63d rfl) (all_one (by kernel_rfl)) rfl ?_
  refine L_v rfl rfl rfl (V_assign rfl rfl) ?_
  refine L_nil ?_
  change J _ _ _ _
  refine J_seq ?_
  refine J_region ?_
  refine L_call rfl rfl rfl rfl tx18d (fun w1 hw => (getdirectory_w none 0 0 [] w1 (SlB.nil _ _) byt0 (Nat.le_refl 0) (by decide)).mono ?_)
  rw [getW_dr0]
  rintro e w' ⟨hfr, rfl⟩
  refine ⟨_, _, _, rfl, hw.fr0 hfr, rfl, ?_⟩
  refine L_v rfl rfl rfl (V_move rfl rfl) ?_
  refine L_v rfl rfl rfl (V_extract rfl rfl rfl) ?_
  refine L_v rfl rfl rfl (V_extract rfl rfl rfl) ?_
  refine L_alloc rfl rfl rfl rfl z63d (fun b4 => ?_)
  refine L_storeW 4 rfl rfl rfl rfl rfl rfl (szd sz63d rfl) (all_one (by kernel_rfl)) rfl ?_
  refine L_v rfl rfl rfl (V_assign rfl rfl) ?_
  refine L_nil ?_
  change J _ _ _ _
  refine J_seq ?_
  refine J_region ?_
  refine L_v rfl rfl rfl (V_move rfl rfl) ?_
  refine L_v rfl rfl rfl (V_eql rfl rfl rfl (by first | exact decide_eq_true (by omega) | exact decide_eq_false (by omega) | rfl)) ?_
  refine L_v rfl rfl rfl (V_move rfl rfl) ?_
  refine L_wv rfl rfl rfl rfl rfl rfl (V_move rfl rfl) ?_
  refine L_wv rfl rfl rfl rfl rfl rfl (V_eql rfl rfl rfl (by first | exact decide_eq_true (by omega) | exact decide_eq_false (by omega) | rfl)) ?_
  first | refine L_v rfl rfl rfl (V_pickT rfl rfl rfl) ?_ | refine L_v rfl rfl rfl (V_pickF rfl rfl rfl) ?_
  refine L_v rfl rfl rfl (V_move rfl rfl) ?_
  refine L_wv rfl rfl rfl rfl rfl rfl (V_fieldAddr rfl rfl Tryz.underlying63 rfl sz3d rfl) ?_
  refine L_wv rfl rfl rfl rfl rfl rfl (V_load1 3 rfl rfl rfl Tryz.underlying3 rfl (by first | rfl | exact dg_get (by omega) (by omega))) ?_
  refine L_wv rfl rfl rfl rfl rfl rfl (V_eql rfl rfl rfl (by first | exact decide_eq_true (by omega) | exact decide_eq_false (by omega) | rfl)) ?_
  first | refine L_v rfl rfl rfl (V_pickT rfl rfl rfl) ?_ | refine L_v rfl rfl rfl (V_pickF rfl rfl rfl) ?_
  refine L_v rfl rfl rfl (V_move rfl rfl) ?_
  refine L_wv rfl rfl rfl rfl rfl rfl (V_fieldAddr rfl rfl Tryz.underlying63 rfl sz59d rfl) ?_
  refine L_wv rfl rfl rfl rfl rfl rfl (V_load1 3 rfl rfl rfl Tryz.underlying59 rfl (by first | rfl | exact dg_get (by omega) (by omega))) ?_
  refine L_wv rfl rfl rfl rfl rfl rfl (V_len rfl rfl Tryz.underlying59 rfl) ?_
  refine L_wv rfl rfl rfl rfl rfl rfl (V_eql rfl rfl rfl (by first | exact decide_eq_true (by omega) | exact decide_eq_false (by omega) | rfl)) ?_
  first | refine L_v rfl rfl rfl (V_pickT rfl rfl rfl) ?_ | refine L_v rfl rfl rfl (V_pickF rfl rfl rfl) ?_
  refine L_v rfl rfl rfl (V_move rfl rfl) ?_
  refine L_wv rfl rfl rfl rfl rfl rfl (V_fieldAddr rfl rfl Tryz.underlying63 rfl sz59d rfl) ?_
  refine L_wv rfl rfl rfl rfl rfl rfl (V_load1 3 rfl rfl rfl Tryz.underlying59 rfl (by first | rfl | exact dg_get (by omega) (by omega))) ?_
  refine L_wv rfl rfl rfl rfl rfl rfl (V_indexC rfl rfl rfl Tryz.underlying59 sz103d (fun w hw => fC hw 1 rfl) (by omega) (show (0 : Int) < ((1 : Nat) : Int) by decide)) ?_
  refine L_wv rfl rfl rfl rfl rfl rfl (V_fieldC rfl rfl (fun w hw => (let ⟨b, o, e, _⟩ := SlC.cell (fC hw 1 rfl) (show (([(uT, Value.slice xa 1 xc)].map usW).flatten)[0]? = some (.string ⟨#[117]⟩) from rfl); ⟨b, o, e⟩)) Tryz.underlying103 rfl sz101d rfl) ?_
  refine L_wv rfl rfl rfl rfl rfl rfl (V_loadC rfl rfl Tryz.underlying101 rfl (fun w hw => fC hw 1 rfl) (by rfl)) ?_
  refine L_wv rfl rfl rfl rfl rfl rfl (V_len rfl rfl Tryz.underlying101 rfl) ?_
  refine L_wv rfl rfl rfl rfl rfl rfl (V_eql rfl rfl rfl (by first | exact decide_eq_true (by omega) | exact decide_eq_false (by omega) | rfl)) ?_
  first | refine L_v rfl rfl rfl (V_pickT rfl rfl rfl) ?_ | refine L_v rfl rfl rfl (V_pickF rfl rfl rfl) ?_
  refine L_v rfl rfl rfl (V_move rfl rfl) ?_
  refine L_wv rfl rfl rfl rfl rfl rfl (V_move rfl rfl) ?_
  refine L_wv rfl rfl rfl rfl rfl rfl (V_eql rfl rfl rfl (by first | exact decide_eq_true (by omega) | exact decide_eq_false (by omega) | rfl)) ?_
  first | refine L_v rfl rfl rfl (V_pickT rfl rfl rfl) ?_ | refine L_v rfl rfl rfl (V_pickF rfl rfl rfl) ?_
  refine L_v rfl rfl rfl (V_assign rfl rfl) ?_
  refine L_nil ?_
  change J _ _ _ _
  refine J_ret ?_
  change Kret _ _ _ Exit.ret _
  refine ret1 rfl rfl (RV_t rfl) ?_
  exact fun w' h => ⟨rfl, h.fr⟩

end Go.Proofs.YtfgcfjojpakpjaaGreat
