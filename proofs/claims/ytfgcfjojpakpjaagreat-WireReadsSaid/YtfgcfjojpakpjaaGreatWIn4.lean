/- What layer 8 reads: messages that hold lists. -/
import Derived.Test.YtfgcfjojpakpjaaGreatWIn3
set_option linter.unusedVariables false
set_option linter.unusedSimpArgs false
set_option maxRecDepth 100000
namespace Go.Proofs.YtfgcfjojpakpjaaGreat
open Go.Sx
abbrev Wcl (x : Cl) (v : Value) (fs : List Fact) : Prop := ∃ a1 c1 a2 c2, v = .agg (clV (Sl a1 x.1.length c1) (Sl a2 x.2.length c2)).toArray ∧ fs = clF (Sl a1 x.1.length c1) (Sl a2 x.2.length c2) x
abbrev Wen (x : En) (v : Value) (fs : List Fact) : Prop := ∃ a1 c1 a2 c2, v = .agg (enV x (Sl a1 x.2.2.2.2.1.length c1) (Sl a2 x.2.2.2.2.2.length c2)).toArray ∧ fs = clF (Sl a1 x.2.2.2.2.1.length c1) (Sl a2 x.2.2.2.2.2.length c2) x.2.2.2.2
abbrev Wrec (x : Rec) (v : Value) (fs : List Fact) : Prop := ∃ a1 c1 a2 c2 a3 c3 a4 c4, v = .agg (recV x (Sl a1 x.2.2.2.1.2.2.2.2.1.length c1) (Sl a2 x.2.2.2.1.2.2.2.2.2.length c2) (Sl a3 x.2.2.2.2.2.1.2.2.1.1.length c3) (Sl a4 x.2.2.2.2.2.1.2.2.1.2.length c4)).toArray ∧
  fs = clF (Sl a1 x.2.2.2.1.2.2.2.2.1.length c1) (Sl a2 x.2.2.2.1.2.2.2.2.2.length c2) x.2.2.2.1.2.2.2.2 ++ clF (Sl a3 x.2.2.2.2.2.1.2.2.1.1.length c3) (Sl a4 x.2.2.2.2.2.1.2.2.1.2.length c4) x.2.2.2.2.2.1.2.2.1
abbrev Wus (x : Us) (v : Value) (fs : List Fact) : Prop := ∃ a c, v = .agg (usV x (Sl a x.2.length c)).toArray ∧ fs = [usF (x, Sl a x.2.length c)]
theorem sz3l : (Tryz.prog.info? 3).map (·.size) = some 1 := by kernel_rfl
theorem sz9l : (Tryz.prog.info? 9).map (·.size) = some 1 := by kernel_rfl
theorem sz27l : (Tryz.prog.info? 27).map (·.size) = some 38 := by kernel_rfl
theorem sz33l : (Tryz.prog.info? 33).map (·.size) = some 1 := by kernel_rfl
theorem sz34l : (Tryz.prog.info? 34).map (·.size) = some 1 := by kernel_rfl
theorem sz36l : (Tryz.prog.info? 36).map (·.size) = some 2 := by kernel_rfl
theorem sz38l : (Tryz.prog.info? 38).map (·.size) = some 43 := by kernel_rfl
theorem sz43l : (Tryz.prog.info? 43).map (·.size) = some 1 := by kernel_rfl
theorem sz45l : (Tryz.prog.info? 45).map (·.size) = some 5 := by kernel_rfl
theorem sz49l : (Tryz.prog.info? 49).map (·.size) = some 97 := by kernel_rfl
theorem sz51l : (Tryz.prog.info? 51).map (·.size) = some 149 := by kernel_rfl
theorem sz101l : (Tryz.prog.info? 101).map (·.size) = some 1 := by kernel_rfl
theorem sz103l : (Tryz.prog.info? 103).map (·.size) = some 2 := by kernel_rfl
theorem tx28l : Txt Tryz.prog 28 := txt_of Tryz.func28 rfl (by kernel_rfl)
theorem tx36l : Txt Tryz.prog 36 := txt_of Tryz.func36 rfl (by kernel_rfl)
theorem tx48l : Txt Tryz.prog 48 := txt_of Tryz.func48 rfl (by kernel_rfl)
theorem tx61l : Txt Tryz.prog 61 := txt_of Tryz.func61 rfl (by kernel_rfl)
theorem tx62l : Txt Tryz.prog 62 := txt_of Tryz.func62 rfl (by kernel_rfl)
theorem tx72l : Txt Tryz.prog 72 := txt_of Tryz.func72 rfl (by kernel_rfl)
theorem tx107l : Txt Tryz.prog 107 := txt_of Tryz.func107 rfl (by kernel_rfl)
theorem tx112l : Txt Tryz.prog 112 := txt_of Tryz.func112 rfl (by kernel_rfl)
theorem tx113l : Txt Tryz.prog 113 := txt_of Tryz.func113 rfl (by kernel_rfl)
theorem z36l : (Tryz.prog.info? 36).bind (·.zero) = some (.agg [.slice none 0 0, .slice none 0 0].toArray) := by kernel_rfl
theorem z38l : (Tryz.prog.info? 38).bind (·.zero) = some (.agg [.int .i64 0, .int .i64 0, .int .i64 0, .int .i64 0, .int .i64 0, .int .i64 0, .string ByteArray.empty, .string ByteArray.empty, .int .i64 0, .int .u8 0, .int .u8 0, .int .u8 0, .int .u8 0, .int .u8 0, .int .u8 0, .int .u8 0, .int .u8 0, .int .u8 0, .int .u8 0, .int .u8 0, .int .u8 0, .int .u8 0, .int .u8 0, .int .u8 0, .int .u8 0, .int .u8 0, .int .u8 0, .int .u8 0, .int .u8 0, .int .u8 0, .int .u8 0, .int .u8 0, .int .u8 0, .int .u8 0, .int .u8 0, .int .u8 0, .int .u8 0, .int .u8 0, .int .u8 0, .int .u8 0, .int .u8 0, .slice none 0 0, .slice none 0 0].toArray) := by kernel_rfl
theorem z51l : (Tryz.prog.info? 51).bind (·.zero) = some (.agg [.int .i64 0, .int .i64 0, .int .i64 0, .int .i64 0, .int .i64 0, .int .i64 0, .int .i64 0, .int .i64 0, .int .i64 0, .string ByteArray.empty, .string ByteArray.empty, .int .i64 0, .int .u8 0, .int .u8 0, .int .u8 0, .int .u8 0, .int .u8 0, .int .u8 0, .int .u8 0, .int .u8 0, .int .u8 0, .int .u8 0, .int .u8 0, .int .u8 0, .int .u8 0, .int .u8 0, .int .u8 0, .int .u8 0, .int .u8 0, .int .u8 0, .int .u8 0, .int .u8 0, .int .u8 0, .int .u8 0, .int .u8 0, .int .u8 0, .int .u8 0, .int .u8 0, .int .u8 0, .int .u8 0, .int .u8 0, .int .u8 0, .int .u8 0, .int .u8 0, .slice none 0 0, .slice none 0 0, .int .i64 0, .int .i64 0, .int .i64 0, .slice none 0 0, .slice none 0 0, .string ByteArray.empty, .int .i64 0, .int .u8 0, .int .u8 0, .int .u8 0, .int .u8 0, .int .u8 0, .int .u8 0, .int .u8 0, .int .u8 0, .int .u8 0, .int .u8 0, .int .u8 0, .int .u8 0, .int .u8 0, .int .u8 0, .int .u8 0, .int .u8 0, .int .u8 0, .int .u8 0, .int .u8 0, .int .u8 0, .int .u8 0, .int .u8 0, .int .u8 0, .int .u8 0, .int .u8 0, .int .u8 0, .int .u8 0, .int .u8 0, .int .u8 0, .int .u8 0, .int .u8 0, .int .u8 0, .int .u8 0, .int .u8 0, .int .u8 0, .int .u8 0, .int .u8 0, .int .u8 0, .int .u8 0, .int .u8 0, .int .u8 0, .int .u8 0, .int .u8 0, .int .u8 0, .int .u8 0, .int .u8 0, .int .u8 0, .int .u8 0, .int .u8 0, .int .u8 0, .int .u8 0, .int .u8 0, .int .u8 0, .int .u8 0, .int .u8 0, .int .u8 0, .int .u8 0, .int .u8 0, .int .u8 0, .int .u8 0, .int .u8 0, .int .u8 0, .int .u8 0, .int .u8 0, .int .u8 0, .int .u8 0, .int .u8 0, .int .u8 0, .int .u8 0, .int .u8 0, .int .u8 0, .int .u8 0, .int .u8 0, .int .u8 0, .int .u8 0, .int .u8 0, .int .u8 0, .int .u8 0, .int .u8 0, .int .u8 0, .int .u8 0, .int .u8 0, .int .u8 0, .int .u8 0, .int .u8 0, .int .u8 0, .int .u8 0, .int .u8 0, .int .u8 0, .int .u8 0, .int .u8 0, .int .u8 0, .int .u8 0, .int .u8 0, .int .u8 0, .int .u8 0].toArray) := by kernel_rfl
theorem z103l : (Tryz.prog.info? 103).bind (·.zero) = some (.agg [.string ByteArray.empty, .slice none 0 0].toArray) := by kernel_rfl

theorem in_council (rb ib : Nat) (u0 : Value) (l0 : List Int) (w : World) (a : Option Addr) (n c : Nat) (l : List Int) (hb : w.heap[rb]? = some (row 139 [.slice a n c])) (hfs : Fx [factB u0 l0, factO ib (inO rb)] w rb) (hD : ∀ W, SlB W u0 l0 → SlB W (.slice a n c) l) (hby : Byt l) (hcn : n ≤ c) (hl : l.length ≤ 1099511627776) :
    Calls Tryz.prog 72 #[.pointer (some ⟨ib, 0, none⟩)] w fun e w' => InP 139 157 w rb u0 l0 ((clC).rn l) (Wcl) e w' := by
  refine calls_of_p (args := [.pointer (some ⟨ib, 0, none⟩)]) ([rb]) ([rdM rb a n c]) ([factB u0 l0, factO ib (inO rb)]) Tryz.func72 rfl rfl (okM1 hb hfs) ?_
  refine J_seq ?_
  refine J_region ?_
  refine L_alloc rfl rfl rfl rfl z36l (fun b1 => ?_)
  refine L_nil ?_
  change J _ _ _ _
  refine J_seq ?_
  refine J_regionP ?_
  refine LP_one ?_
  refine L_v rfl rfl rfl (V_move rfl rfl) ?_
  refine L_nil ?_
  refine LP_one ?_
  refine L_v rfl rfl rfl (V_move rfl rfl) ?_
  refine L_nil ?_
  refine LP_one ?_
  refine L_v rfl rfl rfl (V_makeFunc rfl rfl rfl) ?_
  refine L_nil ?_
  refine LP_in 0 rfl rfl rfl rfl rfl rfl tx107l rfl (fun w1 hw => many_i rb ib u0 l0 61 #[.pointer (some ⟨ib, 0, none⟩)] #[] tx61l (fun W a n c l h1 h2 h3 h4 h5 h6 => in_n rb ib u0 l0 W a n c l h1 h2 h3 h4 h5 h6) w1 _ _ _ _ (hw.at (i := 0) rfl) (fxIn hw rfl) hD hby hcn hl) (fun hk => KretP_panic rfl (fun w' h => InP.no (show (clC).rn l = _ from prN1 (hk)) h.fr)) (fun p1 l1 v1 fs1 a1 n1 c1 hr1 hV1 hc1 hD1 hnw1 => ?_)
  obtain ⟨⟨va1, vc1, rfl⟩, rfl⟩ := hV1
  have hby1 := Cdc.byt (ls cC) hby hr1
  have hl1 := Nat.le_trans (Cdc.short (ls cC) hby hr1) hl
  refine LP_one ?_
  refine L_v rfl rfl rfl (V_fieldAddr rfl rfl Tryz.underlying36 rfl sz34l rfl) ?_
  refine L_nil ?_
  refine LP_one ?_
  refine L_store1 1 (l' := clV (Sl va1 p1.length vc1) (.slice none 0 0)) rfl rfl rfl rfl rfl rfl rfl sz34l (Nat.le_of_ble_eq_true (by kernel_rfl)) (by kernel_rfl) ?_
  refine L_nil ?_
  refine LP_nil ?_
  change J _ _ _ _
  refine J_seq ?_
  refine J_le (st' := { env := [(0, .pointer (some ⟨ib, 0, none⟩)), (2, .pointer (some ⟨b1, 0, none⟩))], mem := [rdM rb a1 n1 c1, (b1, row 36 (clV (Sl va1 p1.length vc1) (.slice none 0 0)))], facts := ([factB u0 l0, factO ib (inO rb)] ++ [factC 1 (Sl va1 p1.length vc1) p1.length (ints p1)]) }) ⟨⟨rfl, rfl, trivial⟩, List.Sublist.refl _, fun f hf => hf, rfl⟩ ?_
  refine J_regionP ?_
  refine LP_one ?_
  refine L_v rfl rfl rfl (V_move rfl rfl) ?_
  refine L_nil ?_
  refine LP_one ?_
  refine L_v rfl rfl rfl (V_move rfl rfl) ?_
  refine L_nil ?_
  refine LP_one ?_
  refine L_v rfl rfl rfl (V_makeFunc rfl rfl rfl) ?_
  refine L_nil ?_
  refine LP_in 0 rfl rfl rfl rfl rfl rfl tx107l rfl (fun w1 hw => many_i rb ib u0 l0 61 #[.pointer (some ⟨ib, 0, none⟩)] #[] tx61l (fun W a n c l h1 h2 h3 h4 h5 h6 => in_n rb ib u0 l0 W a n c l h1 h2 h3 h4 h5 h6) w1 _ _ _ _ (hw.at (i := 0) rfl) (fxIn hw rfl) hD1 hby1 hc1 hl1) (fun hk => KretP_panic rfl (fun w' h => InP.no (show (clC).rn l = _ from prN2 (hr1) (hk)) h.fr)) (fun p2 l2 v2 fs2 a2 n2 c2 hr2 hV2 hc2 hD2 hnw2 => ?_)
  obtain ⟨⟨va2, vc2, rfl⟩, rfl⟩ := hV2
  have hby2 := Cdc.byt (ls cC) hby1 hr2
  have hl2 := Nat.le_trans (Cdc.short (ls cC) hby1 hr2) hl1
  refine LP_one ?_
  refine L_v rfl rfl rfl (V_fieldAddr rfl rfl Tryz.underlying36 rfl sz34l rfl) ?_
  refine L_nil ?_
  refine LP_one ?_
  refine L_store1 1 (l' := clV (Sl va1 p1.length vc1) (Sl va2 p2.length vc2)) rfl rfl rfl rfl rfl rfl rfl sz34l (Nat.le_of_ble_eq_true (by kernel_rfl)) (by kernel_rfl) ?_
  refine L_nil ?_
  refine LP_nil ?_
  change J _ _ _ _
  refine J_seq ?_
  refine J_le (st' := { env := [(0, .pointer (some ⟨ib, 0, none⟩)), (2, .pointer (some ⟨b1, 0, none⟩))], mem := [rdM rb a2 n2 c2, (b1, row 36 (clV (Sl va1 p1.length vc1) (Sl va2 p2.length vc2)))], facts := ([factB u0 l0, factO ib (inO rb)] ++ [factC 1 (Sl va1 p1.length vc1) p1.length (ints p1)] ++ [factC 1 (Sl va2 p2.length vc2) p2.length (ints p2)]) }) ⟨⟨rfl, rfl, trivial⟩, List.Sublist.refl _, fun f hf => hf, rfl⟩ ?_
  refine J_region ?_
  refine L_v rfl rfl rfl (V_loadW 1 rfl rfl rfl Tryz.underlying36 rfl (szd sz36l (by kernel_rfl))) ?_
  refine L_storeW 1 rfl rfl rfl rfl rfl rfl (szd sz36l (by kernel_rfl)) (all_one (by kernel_rfl)) (by kernel_rfl) ?_
  refine L_nil ?_
  change J _ _ _ _
  refine J_ret ?_
  change KretP _ _ _ Exit.ret _
  refine KretP_plain ?_
  refine ret1 rfl rfl (RV_c 1 rfl rfl Tryz.underlying36 rfl (szd sz36l (by kernel_rfl))) ?_
  exact fun w' h => InP.yes (show (clC).rn l = _ from prY (hr1) (hr2)) h.fr ⟨va1, vc1, va2, vc2, rfl, rfl⟩ (inFacts h (fun f hf => List.mem_cons_of_mem _ (List.mem_cons_of_mem _ hf)) (by intro f hf; simp only [clF, List.mem_cons, List.not_mem_nil, or_false] at hf; rcases hf with rfl | rfl; exact hnw1 _ (List.mem_singleton.2 rfl); exact hnw2 _ (List.mem_singleton.2 rfl))) (h.at (i := 0) rfl) hc2 hD2

theorem in_entry (rb ib : Nat) (u0 : Value) (l0 : List Int) (w : World) (a : Option Addr) (n c : Nat) (l : List Int) (hb : w.heap[rb]? = some (row 139 [.slice a n c])) (hfs : Fx [factB u0 l0, factO ib (inO rb)] w rb) (hD : ∀ W, SlB W u0 l0 → SlB W (.slice a n c) l) (hby : Byt l) (hcn : n ≤ c) (hl : l.length ≤ 1099511627776) :
    Calls Tryz.prog 36 #[.pointer (some ⟨ib, 0, none⟩)] w fun e w' => InP 139 157 w rb u0 l0 ((enC).rn l) (Wen) e w' := by
  refine calls_of_p (args := [.pointer (some ⟨ib, 0, none⟩)]) ([rb]) ([rdM rb a n c]) ([factB u0 l0, factO ib (inO rb)]) Tryz.func36 rfl rfl (okM1 hb hfs) ?_
  refine J_seq ?_
  refine J_region ?_
  refine L_alloc rfl rfl rfl rfl z38l (fun b1 => ?_)
  refine L_nil ?_
  change J _ _ _ _
  refine J_seq ?_
  refine J_regionP ?_
  refine LP_one ?_
  refine L_v rfl rfl rfl (V_move rfl rfl) ?_
  refine L_nil ?_
  refine LP_in 0 rfl rfl rfl rfl rfl rfl tx61l rfl (fun w1 hw => in_n rb ib u0 l0 w1 _ _ _ _ (hw.at (i := 0) rfl) (fxIn hw rfl) hD hby hcn hl) (fun hk => KretP_panic rfl (fun w' h => InP.no (show (enC).rn l = _ from prN1 (hk)) h.fr)) (fun p1 l1 v1 fs1 a1 n1 c1 hr1 hV1 hc1 hD1 hnw1 => ?_)
  obtain ⟨rfl, rfl⟩ := hV1
  have hby1 := Cdc.byt cC hby hr1
  have hl1 := Nat.le_trans (Cdc.short cC hby hr1) hl
  refine LP_one ?_
  refine L_v rfl rfl rfl (V_fieldAddr rfl rfl Tryz.underlying38 rfl sz3l rfl) ?_
  refine L_nil ?_
  refine LP_one ?_
  refine L_store1 1 (l' := enV (p1, 0, 0, (0, 0, 0, ⟨#[]⟩, ⟨#[]⟩, 0, dz), ([], [])) (.slice none 0 0) (.slice none 0 0)) rfl rfl rfl rfl rfl rfl rfl sz3l (Nat.le_of_ble_eq_true (by kernel_rfl)) (by kernel_rfl) ?_
  refine L_nil ?_
  refine LP_nil ?_
  change J _ _ _ _
  refine J_seq ?_
  refine J_le (st' := { env := [(0, .pointer (some ⟨ib, 0, none⟩)), (2, .pointer (some ⟨b1, 0, none⟩))], mem := [rdM rb a1 n1 c1, (b1, row 38 (enV (p1, 0, 0, (0, 0, 0, ⟨#[]⟩, ⟨#[]⟩, 0, dz), ([], [])) (.slice none 0 0) (.slice none 0 0)))], facts := ([factB u0 l0, factO ib (inO rb)]) }) ⟨⟨rfl, rfl, trivial⟩, List.Sublist.refl _, fun f hf => hf, rfl⟩ ?_
  refine J_regionP ?_
  refine LP_one ?_
  refine L_v rfl rfl rfl (V_move rfl rfl) ?_
  refine L_nil ?_
  refine LP_in 0 rfl rfl rfl rfl rfl rfl tx61l rfl (fun w1 hw => in_n rb ib u0 l0 w1 _ _ _ _ (hw.at (i := 0) rfl) (fxIn hw rfl) hD1 hby1 hc1 hl1) (fun hk => KretP_panic rfl (fun w' h => InP.no (show (enC).rn l = _ from prN2 (hr1) (prN1 (hk))) h.fr)) (fun p2 l2 v2 fs2 a2 n2 c2 hr2 hV2 hc2 hD2 hnw2 => ?_)
  obtain ⟨rfl, rfl⟩ := hV2
  have hby2 := Cdc.byt cC hby1 hr2
  have hl2 := Nat.le_trans (Cdc.short cC hby1 hr2) hl1
  refine LP_one ?_
  refine L_v rfl rfl rfl (V_fieldAddr rfl rfl Tryz.underlying38 rfl sz3l rfl) ?_
  refine L_nil ?_
  refine LP_one ?_
  refine L_store1 1 (l' := enV (p1, p2, 0, (0, 0, 0, ⟨#[]⟩, ⟨#[]⟩, 0, dz), ([], [])) (.slice none 0 0) (.slice none 0 0)) rfl rfl rfl rfl rfl rfl rfl sz3l (Nat.le_of_ble_eq_true (by kernel_rfl)) (by kernel_rfl) ?_
  refine L_nil ?_
  refine LP_nil ?_
  change J _ _ _ _
  refine J_seq ?_
  refine J_le (st' := { env := [(0, .pointer (some ⟨ib, 0, none⟩)), (2, .pointer (some ⟨b1, 0, none⟩))], mem := [rdM rb a2 n2 c2, (b1, row 38 (enV (p1, p2, 0, (0, 0, 0, ⟨#[]⟩, ⟨#[]⟩, 0, dz), ([], [])) (.slice none 0 0) (.slice none 0 0)))], facts := ([factB u0 l0, factO ib (inO rb)]) }) ⟨⟨rfl, rfl, trivial⟩, List.Sublist.refl _, fun f hf => hf, rfl⟩ ?_
  refine J_regionP ?_
  refine LP_one ?_
  refine L_v rfl rfl rfl (V_move rfl rfl) ?_
  refine L_nil ?_
  refine LP_in 0 rfl rfl rfl rfl rfl rfl tx61l rfl (fun w1 hw => in_n rb ib u0 l0 w1 _ _ _ _ (hw.at (i := 0) rfl) (fxIn hw rfl) hD2 hby2 hc2 hl2) (fun hk => KretP_panic rfl (fun w' h => InP.no (show (enC).rn l = _ from prN2 (hr1) (prN2 (hr2) (prN1 (hk)))) h.fr)) (fun p3 l3 v3 fs3 a3 n3 c3 hr3 hV3 hc3 hD3 hnw3 => ?_)
  obtain ⟨rfl, rfl⟩ := hV3
  have hby3 := Cdc.byt cC hby2 hr3
  have hl3 := Nat.le_trans (Cdc.short cC hby2 hr3) hl2
  refine LP_one ?_
  refine L_v rfl rfl rfl (V_fieldAddr rfl rfl Tryz.underlying38 rfl sz33l rfl) ?_
  refine L_nil ?_
  refine LP_one ?_
  refine L_store1 1 (l' := enV (p1, p2, p3, (0, 0, 0, ⟨#[]⟩, ⟨#[]⟩, 0, dz), ([], [])) (.slice none 0 0) (.slice none 0 0)) rfl rfl rfl rfl rfl rfl rfl sz33l (Nat.le_of_ble_eq_true (by kernel_rfl)) (by kernel_rfl) ?_
  refine L_nil ?_
  refine LP_nil ?_
  change J _ _ _ _
  refine J_seq ?_
  refine J_le (st' := { env := [(0, .pointer (some ⟨ib, 0, none⟩)), (2, .pointer (some ⟨b1, 0, none⟩))], mem := [rdM rb a3 n3 c3, (b1, row 38 (enV (p1, p2, p3, (0, 0, 0, ⟨#[]⟩, ⟨#[]⟩, 0, dz), ([], [])) (.slice none 0 0) (.slice none 0 0)))], facts := ([factB u0 l0, factO ib (inO rb)]) }) ⟨⟨rfl, rfl, trivial⟩, List.Sublist.refl _, fun f hf => hf, rfl⟩ ?_
  refine J_regionP ?_
  refine LP_one ?_
  refine L_v rfl rfl rfl (V_move rfl rfl) ?_
  refine L_nil ?_
  refine LP_in 0 rfl rfl rfl rfl rfl rfl tx28l rfl (fun w1 hw => in_command rb ib u0 l0 w1 _ _ _ _ (hw.at (i := 0) rfl) (fxIn hw rfl) hD3 hby3 hc3 hl3) (fun hk => KretP_panic rfl (fun w' h => InP.no (show (enC).rn l = _ from prN2 (hr1) (prN2 (hr2) (prN2 (hr3) (prN1 (hk))))) h.fr)) (fun p4 l4 v4 fs4 a4 n4 c4 hr4 hV4 hc4 hD4 hnw4 => ?_)
  obtain ⟨rfl, rfl⟩ := hV4
  have hby4 := Cdc.byt cmdC hby3 hr4
  have hl4 := Nat.le_trans (Cdc.short cmdC hby3 hr4) hl3
  refine LP_one ?_
  refine L_v rfl rfl rfl (V_fieldAddr rfl rfl Tryz.underlying38 rfl sz27l rfl) ?_
  refine L_nil ?_
  refine LP_one ?_
  refine L_storeT 1 (l' := enV (p1, p2, p3, p4, ([], [])) (.slice none 0 0) (.slice none 0 0)) rfl rfl rfl rfl rfl rfl (szd sz27l (by kernel_rfl)) (all_one (by kernel_rfl)) (Nat.le_of_ble_eq_true (by kernel_rfl)) (by kernel_rfl) ?_
  refine L_nil ?_
  refine LP_nil ?_
  change J _ _ _ _
  refine J_seq ?_
  refine J_le (st' := { env := [(0, .pointer (some ⟨ib, 0, none⟩)), (2, .pointer (some ⟨b1, 0, none⟩))], mem := [rdM rb a4 n4 c4, (b1, row 38 (enV (p1, p2, p3, p4, ([], [])) (.slice none 0 0) (.slice none 0 0)))], facts := ([factB u0 l0, factO ib (inO rb)]) }) ⟨⟨rfl, rfl, trivial⟩, List.Sublist.refl _, fun f hf => hf, rfl⟩ ?_
  refine J_regionP ?_
  refine LP_one ?_
  refine L_v rfl rfl rfl (V_move rfl rfl) ?_
  refine L_nil ?_
  refine LP_in 0 rfl rfl rfl rfl rfl rfl tx72l rfl (fun w1 hw => in_council rb ib u0 l0 w1 _ _ _ _ (hw.at (i := 0) rfl) (fxIn hw rfl) hD4 hby4 hc4 hl4) (fun hk => KretP_panic rfl (fun w' h => InP.no (show (enC).rn l = _ from prN2 (hr1) (prN2 (hr2) (prN2 (hr3) (prN2 (hr4) (hk))))) h.fr)) (fun p5 l5 v5 fs5 a5 n5 c5 hr5 hV5 hc5 hD5 hnw5 => ?_)
  obtain ⟨va5, vc5, vb5, vd5, rfl, rfl⟩ := hV5
  have hby5 := Cdc.byt clC hby4 hr5
  have hl5 := Nat.le_trans (Cdc.short clC hby4 hr5) hl4
  refine LP_one ?_
  refine L_v rfl rfl rfl (V_fieldAddr rfl rfl Tryz.underlying38 rfl sz36l rfl) ?_
  refine L_nil ?_
  refine LP_one ?_
  refine L_storeT 1 (l' := enV (p1, p2, p3, p4, p5) (Sl va5 p5.1.length vc5) (Sl vb5 p5.2.length vd5)) rfl rfl rfl rfl rfl rfl (szd sz36l (by kernel_rfl)) (all_one (by kernel_rfl)) (Nat.le_of_ble_eq_true (by kernel_rfl)) (by kernel_rfl) ?_
  refine L_nil ?_
  refine LP_nil ?_
  change J _ _ _ _
  refine J_seq ?_
  refine J_le (st' := { env := [(0, .pointer (some ⟨ib, 0, none⟩)), (2, .pointer (some ⟨b1, 0, none⟩))], mem := [rdM rb a5 n5 c5, (b1, row 38 (enV (p1, p2, p3, p4, p5) (Sl va5 p5.1.length vc5) (Sl vb5 p5.2.length vd5)))], facts := ([factB u0 l0, factO ib (inO rb)] ++ clF (Sl va5 p5.1.length vc5) (Sl vb5 p5.2.length vd5) p5) }) ⟨⟨rfl, rfl, trivial⟩, List.Sublist.refl _, fun f hf => hf, rfl⟩ ?_
  refine J_region ?_
  refine L_v rfl rfl rfl (V_loadW 1 rfl rfl rfl Tryz.underlying38 rfl (szd sz38l (by kernel_rfl))) ?_
  refine L_storeW 1 rfl rfl rfl rfl rfl rfl (szd sz38l (by kernel_rfl)) (all_one (by kernel_rfl)) (by kernel_rfl) ?_
  refine L_nil ?_
  change J _ _ _ _
  refine J_ret ?_
  change KretP _ _ _ Exit.ret _
  refine KretP_plain ?_
  refine ret1 rfl rfl (RV_c 1 rfl rfl Tryz.underlying38 rfl (szd sz38l (by kernel_rfl))) ?_
  exact fun w' h => InP.yes (show (enC).rn l = _ from prY (hr1) (prY (hr2) (prY (hr3) (prY (hr4) (hr5))))) h.fr ⟨va5, vc5, vb5, vd5, rfl, rfl⟩ (inFacts h (fun f hf => List.mem_cons_of_mem _ (List.mem_cons_of_mem _ hf)) (hnw5)) (h.at (i := 0) rfl) hc5 hD5

theorem in_record (rb ib : Nat) (u0 : Value) (l0 : List Int) (w : World) (a : Option Addr) (n c : Nat) (l : List Int) (hb : w.heap[rb]? = some (row 139 [.slice a n c])) (hfs : Fx [factB u0 l0, factO ib (inO rb)] w rb) (hD : ∀ W, SlB W u0 l0 → SlB W (.slice a n c) l) (hby : Byt l) (hcn : n ≤ c) (hl : l.length ≤ 1099511627776) :
    Calls Tryz.prog 42 #[.pointer (some ⟨ib, 0, none⟩)] w fun e w' => InP 139 157 w rb u0 l0 ((recC).rn l) (Wrec) e w' := by
  refine calls_of_p (args := [.pointer (some ⟨ib, 0, none⟩)]) ([rb]) ([rdM rb a n c]) ([factB u0 l0, factO ib (inO rb)]) Tryz.func42 rfl rfl (okM1 hb hfs) ?_
  refine J_seq ?_
  refine J_region ?_
  refine L_alloc rfl rfl rfl rfl z51l (fun b1 => ?_)
  refine L_nil ?_
  change J _ _ _ _
  refine J_seq ?_
  refine J_regionP ?_
  refine LP_one ?_
  refine L_v rfl rfl rfl (V_move rfl rfl) ?_
  refine L_nil ?_
  refine LP_in 0 rfl rfl rfl rfl rfl rfl tx61l rfl (fun w1 hw => in_n rb ib u0 l0 w1 _ _ _ _ (hw.at (i := 0) rfl) (fxIn hw rfl) hD hby hcn hl) (fun hk => KretP_panic rfl (fun w' h => InP.no (show (recC).rn l = _ from prN1 (hk)) h.fr)) (fun p1 l1 v1 fs1 a1 n1 c1 hr1 hV1 hc1 hD1 hnw1 => ?_)
  obtain ⟨rfl, rfl⟩ := hV1
  have hby1 := Cdc.byt cC hby hr1
  have hl1 := Nat.le_trans (Cdc.short cC hby hr1) hl
  refine LP_one ?_
  refine L_v rfl rfl rfl (V_fieldAddr rfl rfl Tryz.underlying51 rfl sz43l rfl) ?_
  refine L_nil ?_
  refine LP_one ?_
  refine L_store1 1 (l' := recV (p1, 0, 0, (0, 0, 0, (0, 0, 0, ⟨#[]⟩, ⟨#[]⟩, 0, dz), ([], [])), 0, (0, 0, ([], []), ⟨#[]⟩), ((0, dz, dz), dz)) (.slice none 0 0) (.slice none 0 0) (.slice none 0 0) (.slice none 0 0)) rfl rfl rfl rfl rfl rfl rfl sz43l (Nat.le_of_ble_eq_true (by kernel_rfl)) (by kernel_rfl) ?_
  refine L_nil ?_
  refine LP_nil ?_
  change J _ _ _ _
  refine J_seq ?_
  refine J_le (st' := { env := [(0, .pointer (some ⟨ib, 0, none⟩)), (2, .pointer (some ⟨b1, 0, none⟩))], mem := [rdM rb a1 n1 c1, (b1, row 51 (recV (p1, 0, 0, (0, 0, 0, (0, 0, 0, ⟨#[]⟩, ⟨#[]⟩, 0, dz), ([], [])), 0, (0, 0, ([], []), ⟨#[]⟩), ((0, dz, dz), dz)) (.slice none 0 0) (.slice none 0 0) (.slice none 0 0) (.slice none 0 0)))], facts := ([factB u0 l0, factO ib (inO rb)]) }) ⟨⟨rfl, rfl, trivial⟩, List.Sublist.refl _, fun f hf => hf, rfl⟩ ?_
  refine J_regionP ?_
  refine LP_one ?_
  refine L_v rfl rfl rfl (V_move rfl rfl) ?_
  refine L_nil ?_
  refine LP_in 0 rfl rfl rfl rfl rfl rfl tx61l rfl (fun w1 hw => in_n rb ib u0 l0 w1 _ _ _ _ (hw.at (i := 0) rfl) (fxIn hw rfl) hD1 hby1 hc1 hl1) (fun hk => KretP_panic rfl (fun w' h => InP.no (show (recC).rn l = _ from prN2 (hr1) (prN1 (hk))) h.fr)) (fun p2 l2 v2 fs2 a2 n2 c2 hr2 hV2 hc2 hD2 hnw2 => ?_)
  obtain ⟨rfl, rfl⟩ := hV2
  have hby2 := Cdc.byt cC hby1 hr2
  have hl2 := Nat.le_trans (Cdc.short cC hby1 hr2) hl1
  refine LP_one ?_
  refine L_v rfl rfl rfl (V_fieldAddr rfl rfl Tryz.underlying51 rfl sz3l rfl) ?_
  refine L_nil ?_
  refine LP_one ?_
  refine L_store1 1 (l' := recV (p1, p2, 0, (0, 0, 0, (0, 0, 0, ⟨#[]⟩, ⟨#[]⟩, 0, dz), ([], [])), 0, (0, 0, ([], []), ⟨#[]⟩), ((0, dz, dz), dz)) (.slice none 0 0) (.slice none 0 0) (.slice none 0 0) (.slice none 0 0)) rfl rfl rfl rfl rfl rfl rfl sz3l (Nat.le_of_ble_eq_true (by kernel_rfl)) (by kernel_rfl) ?_
  refine L_nil ?_
  refine LP_nil ?_
  change J _ _ _ _
  refine J_seq ?_
  refine J_le (st' := { env := [(0, .pointer (some ⟨ib, 0, none⟩)), (2, .pointer (some ⟨b1, 0, none⟩))], mem := [rdM rb a2 n2 c2, (b1, row 51 (recV (p1, p2, 0, (0, 0, 0, (0, 0, 0, ⟨#[]⟩, ⟨#[]⟩, 0, dz), ([], [])), 0, (0, 0, ([], []), ⟨#[]⟩), ((0, dz, dz), dz)) (.slice none 0 0) (.slice none 0 0) (.slice none 0 0) (.slice none 0 0)))], facts := ([factB u0 l0, factO ib (inO rb)]) }) ⟨⟨rfl, rfl, trivial⟩, List.Sublist.refl _, fun f hf => hf, rfl⟩ ?_
  refine J_regionP ?_
  refine LP_one ?_
  refine L_v rfl rfl rfl (V_move rfl rfl) ?_
  refine L_nil ?_
  refine LP_in 0 rfl rfl rfl rfl rfl rfl tx61l rfl (fun w1 hw => in_n rb ib u0 l0 w1 _ _ _ _ (hw.at (i := 0) rfl) (fxIn hw rfl) hD2 hby2 hc2 hl2) (fun hk => KretP_panic rfl (fun w' h => InP.no (show (recC).rn l = _ from prN2 (hr1) (prN2 (hr2) (prN1 (hk)))) h.fr)) (fun p3 l3 v3 fs3 a3 n3 c3 hr3 hV3 hc3 hD3 hnw3 => ?_)
  obtain ⟨rfl, rfl⟩ := hV3
  have hby3 := Cdc.byt cC hby2 hr3
  have hl3 := Nat.le_trans (Cdc.short cC hby2 hr3) hl2
  refine LP_one ?_
  refine L_v rfl rfl rfl (V_fieldAddr rfl rfl Tryz.underlying51 rfl sz3l rfl) ?_
  refine L_nil ?_
  refine LP_one ?_
  refine L_store1 1 (l' := recV (p1, p2, p3, (0, 0, 0, (0, 0, 0, ⟨#[]⟩, ⟨#[]⟩, 0, dz), ([], [])), 0, (0, 0, ([], []), ⟨#[]⟩), ((0, dz, dz), dz)) (.slice none 0 0) (.slice none 0 0) (.slice none 0 0) (.slice none 0 0)) rfl rfl rfl rfl rfl rfl rfl sz3l (Nat.le_of_ble_eq_true (by kernel_rfl)) (by kernel_rfl) ?_
  refine L_nil ?_
  refine LP_nil ?_
  change J _ _ _ _
  refine J_seq ?_
  refine J_le (st' := { env := [(0, .pointer (some ⟨ib, 0, none⟩)), (2, .pointer (some ⟨b1, 0, none⟩))], mem := [rdM rb a3 n3 c3, (b1, row 51 (recV (p1, p2, p3, (0, 0, 0, (0, 0, 0, ⟨#[]⟩, ⟨#[]⟩, 0, dz), ([], [])), 0, (0, 0, ([], []), ⟨#[]⟩), ((0, dz, dz), dz)) (.slice none 0 0) (.slice none 0 0) (.slice none 0 0) (.slice none 0 0)))], facts := ([factB u0 l0, factO ib (inO rb)]) }) ⟨⟨rfl, rfl, trivial⟩, List.Sublist.refl _, fun f hf => hf, rfl⟩ ?_
  refine J_regionP ?_
  refine LP_one ?_
  refine L_v rfl rfl rfl (V_move rfl rfl) ?_
  refine L_nil ?_
  refine LP_in 0 rfl rfl rfl rfl rfl rfl tx36l rfl (fun w1 hw => in_entry rb ib u0 l0 w1 _ _ _ _ (hw.at (i := 0) rfl) (fxIn hw rfl) hD3 hby3 hc3 hl3) (fun hk => KretP_panic rfl (fun w' h => InP.no (show (recC).rn l = _ from prN2 (hr1) (prN2 (hr2) (prN2 (hr3) (prN1 (hk))))) h.fr)) (fun p4 l4 v4 fs4 a4 n4 c4 hr4 hV4 hc4 hD4 hnw4 => ?_)
  obtain ⟨va4, vc4, vb4, vd4, rfl, rfl⟩ := hV4
  have hby4 := Cdc.byt enC hby3 hr4
  have hl4 := Nat.le_trans (Cdc.short enC hby3 hr4) hl3
  refine LP_one ?_
  refine L_v rfl rfl rfl (V_fieldAddr rfl rfl Tryz.underlying51 rfl sz38l rfl) ?_
  refine L_nil ?_
  refine LP_one ?_
  refine L_storeT 1 (l' := recV (p1, p2, p3, p4, 0, (0, 0, ([], []), ⟨#[]⟩), ((0, dz, dz), dz)) (Sl va4 p4.2.2.2.2.1.length vc4) (Sl vb4 p4.2.2.2.2.2.length vd4) (.slice none 0 0) (.slice none 0 0)) rfl rfl rfl rfl rfl rfl (szd sz38l (by kernel_rfl)) (all_one (by kernel_rfl)) (Nat.le_of_ble_eq_true (by kernel_rfl)) (by kernel_rfl) ?_
  refine L_nil ?_
  refine LP_nil ?_
  change J _ _ _ _
  refine J_seq ?_
  refine J_le (st' := { env := [(0, .pointer (some ⟨ib, 0, none⟩)), (2, .pointer (some ⟨b1, 0, none⟩))], mem := [rdM rb a4 n4 c4, (b1, row 51 (recV (p1, p2, p3, p4, 0, (0, 0, ([], []), ⟨#[]⟩), ((0, dz, dz), dz)) (Sl va4 p4.2.2.2.2.1.length vc4) (Sl vb4 p4.2.2.2.2.2.length vd4) (.slice none 0 0) (.slice none 0 0)))], facts := ([factB u0 l0, factO ib (inO rb)] ++ clF (Sl va4 p4.2.2.2.2.1.length vc4) (Sl vb4 p4.2.2.2.2.2.length vd4) p4.2.2.2.2) }) ⟨⟨rfl, rfl, trivial⟩, List.Sublist.refl _, fun f hf => hf, rfl⟩ ?_
  refine J_regionP ?_
  refine LP_one ?_
  refine L_v rfl rfl rfl (V_move rfl rfl) ?_
  refine L_nil ?_
  refine LP_in 0 rfl rfl rfl rfl rfl rfl tx61l rfl (fun w1 hw => in_n rb ib u0 l0 w1 _ _ _ _ (hw.at (i := 0) rfl) (fxIn hw rfl) hD4 hby4 hc4 hl4) (fun hk => KretP_panic rfl (fun w' h => InP.no (show (recC).rn l = _ from prN2 (hr1) (prN2 (hr2) (prN2 (hr3) (prN2 (hr4) (prN1 (hk)))))) h.fr)) (fun p5 l5 v5 fs5 a5 n5 c5 hr5 hV5 hc5 hD5 hnw5 => ?_)
  obtain ⟨rfl, rfl⟩ := hV5
  have hby5 := Cdc.byt cC hby4 hr5
  have hl5 := Nat.le_trans (Cdc.short cC hby4 hr5) hl4
  refine LP_one ?_
  refine L_v rfl rfl rfl (V_fieldAddr rfl rfl Tryz.underlying51 rfl sz3l rfl) ?_
  refine L_nil ?_
  refine LP_one ?_
  refine L_store1 1 (l' := recV (p1, p2, p3, p4, p5, (0, 0, ([], []), ⟨#[]⟩), ((0, dz, dz), dz)) (Sl va4 p4.2.2.2.2.1.length vc4) (Sl vb4 p4.2.2.2.2.2.length vd4) (.slice none 0 0) (.slice none 0 0)) rfl rfl rfl rfl rfl rfl rfl sz3l (Nat.le_of_ble_eq_true (by kernel_rfl)) (by kernel_rfl) ?_
  refine L_nil ?_
  refine LP_nil ?_
  change J _ _ _ _
  refine J_seq ?_
  refine J_le (st' := { env := [(0, .pointer (some ⟨ib, 0, none⟩)), (2, .pointer (some ⟨b1, 0, none⟩))], mem := [rdM rb a5 n5 c5, (b1, row 51 (recV (p1, p2, p3, p4, p5, (0, 0, ([], []), ⟨#[]⟩), ((0, dz, dz), dz)) (Sl va4 p4.2.2.2.2.1.length vc4) (Sl vb4 p4.2.2.2.2.2.length vd4) (.slice none 0 0) (.slice none 0 0)))], facts := ([factB u0 l0, factO ib (inO rb)] ++ clF (Sl va4 p4.2.2.2.2.1.length vc4) (Sl vb4 p4.2.2.2.2.2.length vd4) p4.2.2.2.2) }) ⟨⟨rfl, rfl, trivial⟩, List.Sublist.refl _, fun f hf => hf, rfl⟩ ?_
  refine J_regionP ?_
  refine LP_one ?_
  refine L_v rfl rfl rfl (V_move rfl rfl) ?_
  refine L_nil ?_
  refine LP_in 0 rfl rfl rfl rfl rfl rfl tx61l rfl (fun w1 hw => in_n rb ib u0 l0 w1 _ _ _ _ (hw.at (i := 0) rfl) (fxIn hw rfl) hD5 hby5 hc5 hl5) (fun hk => KretP_panic rfl (fun w' h => InP.no (show (recC).rn l = _ from prN2 (hr1) (prN2 (hr2) (prN2 (hr3) (prN2 (hr4) (prN2 (hr5) (prN1 (prN1 (hk)))))))) h.fr)) (fun p6 l6 v6 fs6 a6 n6 c6 hr6 hV6 hc6 hD6 hnw6 => ?_)
  obtain ⟨rfl, rfl⟩ := hV6
  have hby6 := Cdc.byt cC hby5 hr6
  have hl6 := Nat.le_trans (Cdc.short cC hby5 hr6) hl5
  refine LP_one ?_
  refine L_v rfl rfl rfl (V_fieldAddr rfl rfl Tryz.underlying51 rfl sz45l rfl) ?_
  refine L_nil ?_
  refine LP_one ?_
  refine L_v rfl rfl rfl (V_fieldAddr rfl rfl Tryz.underlying45 rfl sz3l rfl) ?_
  refine L_nil ?_
  refine LP_one ?_
  refine L_store1 1 (l' := recV (p1, p2, p3, p4, p5, (p6, 0, ([], []), ⟨#[]⟩), ((0, dz, dz), dz)) (Sl va4 p4.2.2.2.2.1.length vc4) (Sl vb4 p4.2.2.2.2.2.length vd4) (.slice none 0 0) (.slice none 0 0)) rfl rfl rfl rfl rfl rfl rfl sz3l (Nat.le_of_ble_eq_true (by kernel_rfl)) (by kernel_rfl) ?_
  refine L_nil ?_
  refine LP_nil ?_
  change J _ _ _ _
  refine J_seq ?_
  refine J_le (st' := { env := [(0, .pointer (some ⟨ib, 0, none⟩)), (2, .pointer (some ⟨b1, 0, none⟩))], mem := [rdM rb a6 n6 c6, (b1, row 51 (recV (p1, p2, p3, p4, p5, (p6, 0, ([], []), ⟨#[]⟩), ((0, dz, dz), dz)) (Sl va4 p4.2.2.2.2.1.length vc4) (Sl vb4 p4.2.2.2.2.2.length vd4) (.slice none 0 0) (.slice none 0 0)))], facts := ([factB u0 l0, factO ib (inO rb)] ++ clF (Sl va4 p4.2.2.2.2.1.length vc4) (Sl vb4 p4.2.2.2.2.2.length vd4) p4.2.2.2.2) }) ⟨⟨rfl, rfl, trivial⟩, List.Sublist.refl _, fun f hf => hf, rfl⟩ ?_
  refine J_regionP ?_
  refine LP_one ?_
  refine L_v rfl rfl rfl (V_move rfl rfl) ?_
  refine L_nil ?_
  refine LP_in 0 rfl rfl rfl rfl rfl rfl tx61l rfl (fun w1 hw => in_n rb ib u0 l0 w1 _ _ _ _ (hw.at (i := 0) rfl) (fxIn hw rfl) hD6 hby6 hc6 hl6) (fun hk => KretP_panic rfl (fun w' h => InP.no (show (recC).rn l = _ from prN2 (hr1) (prN2 (hr2) (prN2 (hr3) (prN2 (hr4) (prN2 (hr5) (prN1 (prN2 (hr6) (prN1 (hk))))))))) h.fr)) (fun p7 l7 v7 fs7 a7 n7 c7 hr7 hV7 hc7 hD7 hnw7 => ?_)
  obtain ⟨rfl, rfl⟩ := hV7
  have hby7 := Cdc.byt cC hby6 hr7
  have hl7 := Nat.le_trans (Cdc.short cC hby6 hr7) hl6
  refine LP_one ?_
  refine L_v rfl rfl rfl (V_fieldAddr rfl rfl Tryz.underlying51 rfl sz45l rfl) ?_
  refine L_nil ?_
  refine LP_one ?_
  refine L_v rfl rfl rfl (V_fieldAddr rfl rfl Tryz.underlying45 rfl sz3l rfl) ?_
  refine L_nil ?_
  refine LP_one ?_
  refine L_store1 1 (l' := recV (p1, p2, p3, p4, p5, (p6, p7, ([], []), ⟨#[]⟩), ((0, dz, dz), dz)) (Sl va4 p4.2.2.2.2.1.length vc4) (Sl vb4 p4.2.2.2.2.2.length vd4) (.slice none 0 0) (.slice none 0 0)) rfl rfl rfl rfl rfl rfl rfl sz3l (Nat.le_of_ble_eq_true (by kernel_rfl)) (by kernel_rfl) ?_
  refine L_nil ?_
  refine LP_nil ?_
  change J _ _ _ _
  refine J_seq ?_
  refine J_le (st' := { env := [(0, .pointer (some ⟨ib, 0, none⟩)), (2, .pointer (some ⟨b1, 0, none⟩))], mem := [rdM rb a7 n7 c7, (b1, row 51 (recV (p1, p2, p3, p4, p5, (p6, p7, ([], []), ⟨#[]⟩), ((0, dz, dz), dz)) (Sl va4 p4.2.2.2.2.1.length vc4) (Sl vb4 p4.2.2.2.2.2.length vd4) (.slice none 0 0) (.slice none 0 0)))], facts := ([factB u0 l0, factO ib (inO rb)] ++ clF (Sl va4 p4.2.2.2.2.1.length vc4) (Sl vb4 p4.2.2.2.2.2.length vd4) p4.2.2.2.2) }) ⟨⟨rfl, rfl, trivial⟩, List.Sublist.refl _, fun f hf => hf, rfl⟩ ?_
  refine J_regionP ?_
  refine LP_one ?_
  refine L_v rfl rfl rfl (V_move rfl rfl) ?_
  refine L_nil ?_
  refine LP_in 0 rfl rfl rfl rfl rfl rfl tx72l rfl (fun w1 hw => in_council rb ib u0 l0 w1 _ _ _ _ (hw.at (i := 0) rfl) (fxIn hw rfl) hD7 hby7 hc7 hl7) (fun hk => KretP_panic rfl (fun w' h => InP.no (show (recC).rn l = _ from prN2 (hr1) (prN2 (hr2) (prN2 (hr3) (prN2 (hr4) (prN2 (hr5) (prN1 (prN2 (hr6) (prN2 (hr7) (prN1 (hk)))))))))) h.fr)) (fun p8 l8 v8 fs8 a8 n8 c8 hr8 hV8 hc8 hD8 hnw8 => ?_)
  obtain ⟨va8, vc8, vb8, vd8, rfl, rfl⟩ := hV8
  have hby8 := Cdc.byt clC hby7 hr8
  have hl8 := Nat.le_trans (Cdc.short clC hby7 hr8) hl7
  refine LP_one ?_
  refine L_v rfl rfl rfl (V_fieldAddr rfl rfl Tryz.underlying51 rfl sz45l rfl) ?_
  refine L_nil ?_
  refine LP_one ?_
  refine L_v rfl rfl rfl (V_fieldAddr rfl rfl Tryz.underlying45 rfl sz36l rfl) ?_
  refine L_nil ?_
  refine LP_one ?_
  refine L_storeT 1 (l' := recV (p1, p2, p3, p4, p5, (p6, p7, p8, ⟨#[]⟩), ((0, dz, dz), dz)) (Sl va4 p4.2.2.2.2.1.length vc4) (Sl vb4 p4.2.2.2.2.2.length vd4) (Sl va8 p8.1.length vc8) (Sl vb8 p8.2.length vd8)) rfl rfl rfl rfl rfl rfl (szd sz36l (by kernel_rfl)) (all_one (by kernel_rfl)) (Nat.le_of_ble_eq_true (by kernel_rfl)) (by kernel_rfl) ?_
  refine L_nil ?_
  refine LP_nil ?_
  change J _ _ _ _
  refine J_seq ?_
  refine J_le (st' := { env := [(0, .pointer (some ⟨ib, 0, none⟩)), (2, .pointer (some ⟨b1, 0, none⟩))], mem := [rdM rb a8 n8 c8, (b1, row 51 (recV (p1, p2, p3, p4, p5, (p6, p7, p8, ⟨#[]⟩), ((0, dz, dz), dz)) (Sl va4 p4.2.2.2.2.1.length vc4) (Sl vb4 p4.2.2.2.2.2.length vd4) (Sl va8 p8.1.length vc8) (Sl vb8 p8.2.length vd8)))], facts := ([factB u0 l0, factO ib (inO rb)] ++ clF (Sl va4 p4.2.2.2.2.1.length vc4) (Sl vb4 p4.2.2.2.2.2.length vd4) p4.2.2.2.2 ++ clF (Sl va8 p8.1.length vc8) (Sl vb8 p8.2.length vd8) p8) }) ⟨⟨rfl, rfl, trivial⟩, List.Sublist.refl _, fun f hf => hf, rfl⟩ ?_
  refine J_regionP ?_
  refine LP_one ?_
  refine L_v rfl rfl rfl (V_move rfl rfl) ?_
  refine L_nil ?_
  refine LP_in 0 rfl rfl rfl rfl rfl rfl tx62l rfl (fun w1 hw => in_s rb ib u0 l0 w1 _ _ _ _ (hw.at (i := 0) rfl) (fxIn hw rfl) hD8 hby8 hc8 hl8) (fun hk => KretP_panic rfl (fun w' h => InP.no (show (recC).rn l = _ from prN2 (hr1) (prN2 (hr2) (prN2 (hr3) (prN2 (hr4) (prN2 (hr5) (prN1 (prN2 (hr6) (prN2 (hr7) (prN2 (hr8) (hk)))))))))) h.fr)) (fun p9 l9 v9 fs9 a9 n9 c9 hr9 hV9 hc9 hD9 hnw9 => ?_)
  obtain ⟨rfl, rfl⟩ := hV9
  have hby9 := Cdc.byt sC hby8 hr9
  have hl9 := Nat.le_trans (Cdc.short sC hby8 hr9) hl8
  refine LP_one ?_
  refine L_v rfl rfl rfl (V_fieldAddr rfl rfl Tryz.underlying51 rfl sz45l rfl) ?_
  refine L_nil ?_
  refine LP_one ?_
  refine L_v rfl rfl rfl (V_fieldAddr rfl rfl Tryz.underlying45 rfl sz9l rfl) ?_
  refine L_nil ?_
  refine LP_one ?_
  refine L_store1 1 (l' := recV (p1, p2, p3, p4, p5, (p6, p7, p8, p9), ((0, dz, dz), dz)) (Sl va4 p4.2.2.2.2.1.length vc4) (Sl vb4 p4.2.2.2.2.2.length vd4) (Sl va8 p8.1.length vc8) (Sl vb8 p8.2.length vd8)) rfl rfl rfl rfl rfl rfl rfl sz9l (Nat.le_of_ble_eq_true (by kernel_rfl)) (by kernel_rfl) ?_
  refine L_nil ?_
  refine LP_nil ?_
  change J _ _ _ _
  refine J_seq ?_
  refine J_le (st' := { env := [(0, .pointer (some ⟨ib, 0, none⟩)), (2, .pointer (some ⟨b1, 0, none⟩))], mem := [rdM rb a9 n9 c9, (b1, row 51 (recV (p1, p2, p3, p4, p5, (p6, p7, p8, p9), ((0, dz, dz), dz)) (Sl va4 p4.2.2.2.2.1.length vc4) (Sl vb4 p4.2.2.2.2.2.length vd4) (Sl va8 p8.1.length vc8) (Sl vb8 p8.2.length vd8)))], facts := ([factB u0 l0, factO ib (inO rb)] ++ clF (Sl va4 p4.2.2.2.2.1.length vc4) (Sl vb4 p4.2.2.2.2.2.length vd4) p4.2.2.2.2 ++ clF (Sl va8 p8.1.length vc8) (Sl vb8 p8.2.length vd8) p8) }) ⟨⟨rfl, rfl, trivial⟩, List.Sublist.refl _, fun f hf => hf, rfl⟩ ?_
  refine J_regionP ?_
  refine LP_one ?_
  refine L_v rfl rfl rfl (V_move rfl rfl) ?_
  refine L_nil ?_
  refine LP_in 0 rfl rfl rfl rfl rfl rfl tx48l rfl (fun w1 hw => in_signed rb ib u0 l0 w1 _ _ _ _ (hw.at (i := 0) rfl) (fxIn hw rfl) hD9 hby9 hc9 hl9) (fun hk => KretP_panic rfl (fun w' h => InP.no (show (recC).rn l = _ from prN2 (hr1) (prN2 (hr2) (prN2 (hr3) (prN2 (hr4) (prN2 (hr5) (prN2 (prY (hr6) (prY (hr7) (prY (hr8) (hr9)))) (hk))))))) h.fr)) (fun p10 l10 v10 fs10 a10 n10 c10 hr10 hV10 hc10 hD10 hnw10 => ?_)
  obtain ⟨rfl, rfl⟩ := hV10
  have hby10 := Cdc.byt sgC hby9 hr10
  have hl10 := Nat.le_trans (Cdc.short sgC hby9 hr10) hl9
  refine LP_one ?_
  refine L_v rfl rfl rfl (V_fieldAddr rfl rfl Tryz.underlying51 rfl sz49l rfl) ?_
  refine L_nil ?_
  refine LP_one ?_
  refine L_storeT 1 (l' := recV (p1, p2, p3, p4, p5, (p6, p7, p8, p9), p10) (Sl va4 p4.2.2.2.2.1.length vc4) (Sl vb4 p4.2.2.2.2.2.length vd4) (Sl va8 p8.1.length vc8) (Sl vb8 p8.2.length vd8)) rfl rfl rfl rfl rfl rfl (szd sz49l (by kernel_rfl)) (all_one (by kernel_rfl)) (Nat.le_of_ble_eq_true (by kernel_rfl)) (by kernel_rfl) ?_
  refine L_nil ?_
  refine LP_nil ?_
  change J _ _ _ _
  refine J_seq ?_
  refine J_le (st' := { env := [(0, .pointer (some ⟨ib, 0, none⟩)), (2, .pointer (some ⟨b1, 0, none⟩))], mem := [rdM rb a10 n10 c10, (b1, row 51 (recV (p1, p2, p3, p4, p5, (p6, p7, p8, p9), p10) (Sl va4 p4.2.2.2.2.1.length vc4) (Sl vb4 p4.2.2.2.2.2.length vd4) (Sl va8 p8.1.length vc8) (Sl vb8 p8.2.length vd8)))], facts := ([factB u0 l0, factO ib (inO rb)] ++ clF (Sl va4 p4.2.2.2.2.1.length vc4) (Sl vb4 p4.2.2.2.2.2.length vd4) p4.2.2.2.2 ++ clF (Sl va8 p8.1.length vc8) (Sl vb8 p8.2.length vd8) p8) }) ⟨⟨rfl, rfl, trivial⟩, List.Sublist.refl _, fun f hf => hf, rfl⟩ ?_
  refine J_region ?_
  refine L_v rfl rfl rfl (V_loadW 1 rfl rfl rfl Tryz.underlying51 rfl (szd sz51l (by kernel_rfl))) ?_
  refine L_storeW 1 rfl rfl rfl rfl rfl rfl (szd sz51l (by kernel_rfl)) (all_one (by kernel_rfl)) (by kernel_rfl) ?_
  refine L_nil ?_
  change J _ _ _ _
  refine J_ret ?_
  change KretP _ _ _ Exit.ret _
  refine KretP_plain ?_
  refine ret1 rfl rfl (RV_c 1 rfl rfl Tryz.underlying51 rfl (szd sz51l (by kernel_rfl))) ?_
  exact fun w' h => InP.yes (show (recC).rn l = _ from prY (hr1) (prY (hr2) (prY (hr3) (prY (hr4) (prY (hr5) (prY (prY (hr6) (prY (hr7) (prY (hr8) (hr9)))) (hr10))))))) h.fr ⟨va4, vc4, vb4, vd4, va8, vc8, vb8, vd8, rfl, rfl⟩ (inFacts h (fun f hf => List.mem_cons_of_mem _ (List.mem_cons_of_mem _ hf)) (by intro f hf; rcases List.mem_append.1 hf with hf | hf; exact hnw4 f hf; exact hnw8 f hf)) (h.at (i := 0) rfl) hc10 hD10

theorem in_user (rb ib : Nat) (u0 : Value) (l0 : List Int) (w : World) (a : Option Addr) (n c : Nat) (l : List Int) (hb : w.heap[rb]? = some (row 139 [.slice a n c])) (hfs : Fx [factB u0 l0, factO ib (inO rb)] w rb) (hD : ∀ W, SlB W u0 l0 → SlB W (.slice a n c) l) (hby : Byt l) (hcn : n ≤ c) (hl : l.length ≤ 1099511627776) :
    Calls Tryz.prog 83 #[.pointer (some ⟨ib, 0, none⟩)] w fun e w' => InP 139 157 w rb u0 l0 ((usC).rn l) (Wus) e w' := by
  refine calls_of_p (args := [.pointer (some ⟨ib, 0, none⟩)]) ([rb]) ([rdM rb a n c]) ([factB u0 l0, factO ib (inO rb)]) Tryz.func83 rfl rfl (okM1 hb hfs) ?_
  refine J_seq ?_
  refine J_region ?_
  refine L_alloc rfl rfl rfl rfl z103l (fun b1 => ?_)
  refine L_nil ?_
  change J _ _ _ _
  refine J_seq ?_
  refine J_regionP ?_
  refine LP_one ?_
  refine L_v rfl rfl rfl (V_move rfl rfl) ?_
  refine L_nil ?_
  refine LP_in 0 rfl rfl rfl rfl rfl rfl tx62l rfl (fun w1 hw => in_s rb ib u0 l0 w1 _ _ _ _ (hw.at (i := 0) rfl) (fxIn hw rfl) hD hby hcn hl) (fun hk => KretP_panic rfl (fun w' h => InP.no (show (usC).rn l = _ from prN1 (hk)) h.fr)) (fun p1 l1 v1 fs1 a1 n1 c1 hr1 hV1 hc1 hD1 hnw1 => ?_)
  obtain ⟨rfl, rfl⟩ := hV1
  have hby1 := Cdc.byt sC hby hr1
  have hl1 := Nat.le_trans (Cdc.short sC hby hr1) hl
  refine LP_one ?_
  refine L_v rfl rfl rfl (V_fieldAddr rfl rfl Tryz.underlying103 rfl sz9l rfl) ?_
  refine L_nil ?_
  refine LP_one ?_
  refine L_store1 1 (l' := usV (p1, []) (.slice none 0 0)) rfl rfl rfl rfl rfl rfl rfl sz9l (Nat.le_of_ble_eq_true (by kernel_rfl)) (by kernel_rfl) ?_
  refine L_nil ?_
  refine LP_nil ?_
  change J _ _ _ _
  refine J_seq ?_
  refine J_le (st' := { env := [(0, .pointer (some ⟨ib, 0, none⟩)), (2, .pointer (some ⟨b1, 0, none⟩))], mem := [rdM rb a1 n1 c1, (b1, row 103 (usV (p1, []) (.slice none 0 0)))], facts := ([factB u0 l0, factO ib (inO rb)]) }) ⟨⟨rfl, rfl, trivial⟩, List.Sublist.refl _, fun f hf => hf, rfl⟩ ?_
  refine J_regionP ?_
  refine LP_one ?_
  refine L_v rfl rfl rfl (V_move rfl rfl) ?_
  refine L_nil ?_
  refine LP_one ?_
  refine L_v rfl rfl rfl (V_move rfl rfl) ?_
  refine L_nil ?_
  refine LP_one ?_
  refine L_v rfl rfl rfl (V_makeFunc rfl rfl rfl) ?_
  refine L_nil ?_
  refine LP_in 0 rfl rfl rfl rfl rfl rfl tx112l rfl (fun w1 hw => many_v rb ib u0 l0 113 #[.pointer (some ⟨ib, 0, none⟩)] #[] tx113l (fun W a n c l h1 h2 h3 h4 h5 h6 => in_version rb ib u0 l0 W a n c l h1 h2 h3 h4 h5 h6) w1 _ _ _ _ (hw.at (i := 0) rfl) (fxIn hw rfl) hD1 hby1 hc1 hl1) (fun hk => KretP_panic rfl (fun w' h => InP.no (show (usC).rn l = _ from prN2 (hr1) (hk)) h.fr)) (fun p2 l2 v2 fs2 a2 n2 c2 hr2 hV2 hc2 hD2 hnw2 => ?_)
  obtain ⟨⟨va2, vc2, rfl⟩, rfl⟩ := hV2
  have hby2 := Cdc.byt (ls vrC) hby1 hr2
  have hl2 := Nat.le_trans (Cdc.short (ls vrC) hby1 hr2) hl1
  refine LP_one ?_
  refine L_v rfl rfl rfl (V_fieldAddr rfl rfl Tryz.underlying103 rfl sz101l rfl) ?_
  refine L_nil ?_
  refine LP_one ?_
  refine L_store1 1 (l' := usV (p1, p2) (Sl va2 p2.length vc2)) rfl rfl rfl rfl rfl rfl rfl sz101l (Nat.le_of_ble_eq_true (by kernel_rfl)) (by kernel_rfl) ?_
  refine L_nil ?_
  refine LP_nil ?_
  change J _ _ _ _
  refine J_seq ?_
  refine J_le (st' := { env := [(0, .pointer (some ⟨ib, 0, none⟩)), (2, .pointer (some ⟨b1, 0, none⟩))], mem := [rdM rb a2 n2 c2, (b1, row 103 (usV (p1, p2) (Sl va2 p2.length vc2)))], facts := ([factB u0 l0, factO ib (inO rb)] ++ [usF ((p1, p2), (Sl va2 p2.length vc2))]) }) ⟨⟨rfl, rfl, trivial⟩, List.Sublist.refl _, fun f hf => hf, rfl⟩ ?_
  refine J_region ?_
  refine L_v rfl rfl rfl (V_loadW 1 rfl rfl rfl Tryz.underlying103 rfl (szd sz103l (by kernel_rfl))) ?_
  refine L_storeW 1 rfl rfl rfl rfl rfl rfl (szd sz103l (by kernel_rfl)) (all_one (by kernel_rfl)) (by kernel_rfl) ?_
  refine L_nil ?_
  change J _ _ _ _
  refine J_ret ?_
  change KretP _ _ _ Exit.ret _
  refine KretP_plain ?_
  refine ret1 rfl rfl (RV_c 1 rfl rfl Tryz.underlying103 rfl (szd sz103l (by kernel_rfl))) ?_
  exact fun w' h => InP.yes (show (usC).rn l = _ from prY (hr1) (hr2)) h.fr ⟨va2, vc2, rfl, rfl⟩ (inFacts h (fun f hf => List.mem_cons_of_mem _ (List.mem_cons_of_mem _ hf)) (hnw2)) (h.at (i := 0) rfl) hc2 hD2

end Go.Proofs.YtfgcfjojpakpjaaGreat
