/- What layer 8 reads: messages, each by its parts. -/
import Derived.Test.YtfgcfjojpakpjaaGreatWIn
set_option linter.unusedVariables false
set_option linter.unusedSimpArgs false
set_option maxRecDepth 100000
namespace Go.Proofs.YtfgcfjojpakpjaaGreat
open Go.Sx
theorem inFacts {cx : Cx} {m : Mem} {F fs : List Fact} {w : World} (h : OkW cx m F w) (hs : ∀ f ∈ fs, f ∈ F) (hn : ∀ f ∈ fs, ∀ k, f.fp k → cx.w0.heap.size ≤ k) : ∀ f ∈ fs, f.p w ∧ ∀ k, f.fp k → cx.w0.heap.size ≤ k ∧ k < w.heap.size :=
  fun f hf => ⟨(h.facts f (hs f hf)).1, fun k hk => ⟨hn f hf k hk, ((h.facts f (hs f hf)).2 k hk).1⟩⟩
theorem all_one {l : List Value} (h : l.all (·.oneCell') = true) : ∀ u ∈ l, u.oneCell' = true := fun u hu => List.all_eq_true.1 h u hu
abbrev Sl (a : Option Addr) (n c : Nat) : Value := .slice a n c
theorem sz3j : (Tryz.prog.info? 3).map (·.size) = some 1 := by kernel_rfl
theorem sz9j : (Tryz.prog.info? 9).map (·.size) = some 1 := by kernel_rfl
theorem sz23j : (Tryz.prog.info? 23).map (·.size) = some 1 := by kernel_rfl
theorem sz25j : (Tryz.prog.info? 25).map (·.size) = some 32 := by kernel_rfl
theorem sz27j : (Tryz.prog.info? 27).map (·.size) = some 38 := by kernel_rfl
theorem sz28j : (Tryz.prog.info? 28).map (·.size) = some 1 := by kernel_rfl
theorem sz47j : (Tryz.prog.info? 47).map (·.size) = some 65 := by kernel_rfl
theorem sz49j : (Tryz.prog.info? 49).map (·.size) = some 97 := by kernel_rfl
theorem sz106j : (Tryz.prog.info? 106).map (·.size) = some 4 := by kernel_rfl
theorem sz107j : (Tryz.prog.info? 107).map (·.size) = some 1 := by kernel_rfl
theorem sz109j : (Tryz.prog.info? 109).map (·.size) = some 3 := by kernel_rfl
theorem tx61j : Txt Tryz.prog 61 := txt_of Tryz.func61 rfl (by kernel_rfl)
theorem tx62j : Txt Tryz.prog 62 := txt_of Tryz.func62 rfl (by kernel_rfl)
theorem tx63j : Txt Tryz.prog 63 := txt_of Tryz.func63 rfl (by kernel_rfl)
theorem tx78j : Txt Tryz.prog 78 := txt_of Tryz.func78 rfl (by kernel_rfl)
theorem z27j : (Tryz.prog.info? 27).bind (·.zero) = some (.agg [.int .i64 0, .int .i64 0, .int .i64 0, .string ByteArray.empty, .string ByteArray.empty, .int .i64 0, .int .u8 0, .int .u8 0, .int .u8 0, .int .u8 0, .int .u8 0, .int .u8 0, .int .u8 0, .int .u8 0, .int .u8 0, .int .u8 0, .int .u8 0, .int .u8 0, .int .u8 0, .int .u8 0, .int .u8 0, .int .u8 0, .int .u8 0, .int .u8 0, .int .u8 0, .int .u8 0, .int .u8 0, .int .u8 0, .int .u8 0, .int .u8 0, .int .u8 0, .int .u8 0, .int .u8 0, .int .u8 0, .int .u8 0, .int .u8 0, .int .u8 0, .int .u8 0].toArray) := by kernel_rfl
theorem z47j : (Tryz.prog.info? 47).bind (·.zero) = some (.agg [.int .i64 0, .int .u8 0, .int .u8 0, .int .u8 0, .int .u8 0, .int .u8 0, .int .u8 0, .int .u8 0, .int .u8 0, .int .u8 0, .int .u8 0, .int .u8 0, .int .u8 0, .int .u8 0, .int .u8 0, .int .u8 0, .int .u8 0, .int .u8 0, .int .u8 0, .int .u8 0, .int .u8 0, .int .u8 0, .int .u8 0, .int .u8 0, .int .u8 0, .int .u8 0, .int .u8 0, .int .u8 0, .int .u8 0, .int .u8 0, .int .u8 0, .int .u8 0, .int .u8 0, .int .u8 0, .int .u8 0, .int .u8 0, .int .u8 0, .int .u8 0, .int .u8 0, .int .u8 0, .int .u8 0, .int .u8 0, .int .u8 0, .int .u8 0, .int .u8 0, .int .u8 0, .int .u8 0, .int .u8 0, .int .u8 0, .int .u8 0, .int .u8 0, .int .u8 0, .int .u8 0, .int .u8 0, .int .u8 0, .int .u8 0, .int .u8 0, .int .u8 0, .int .u8 0, .int .u8 0, .int .u8 0, .int .u8 0, .int .u8 0, .int .u8 0, .int .u8 0].toArray) := by kernel_rfl
theorem z49j : (Tryz.prog.info? 49).bind (·.zero) = some (.agg [.int .i64 0, .int .u8 0, .int .u8 0, .int .u8 0, .int .u8 0, .int .u8 0, .int .u8 0, .int .u8 0, .int .u8 0, .int .u8 0, .int .u8 0, .int .u8 0, .int .u8 0, .int .u8 0, .int .u8 0, .int .u8 0, .int .u8 0, .int .u8 0, .int .u8 0, .int .u8 0, .int .u8 0, .int .u8 0, .int .u8 0, .int .u8 0, .int .u8 0, .int .u8 0, .int .u8 0, .int .u8 0, .int .u8 0, .int .u8 0, .int .u8 0, .int .u8 0, .int .u8 0, .int .u8 0, .int .u8 0, .int .u8 0, .int .u8 0, .int .u8 0, .int .u8 0, .int .u8 0, .int .u8 0, .int .u8 0, .int .u8 0, .int .u8 0, .int .u8 0, .int .u8 0, .int .u8 0, .int .u8 0, .int .u8 0, .int .u8 0, .int .u8 0, .int .u8 0, .int .u8 0, .int .u8 0, .int .u8 0, .int .u8 0, .int .u8 0, .int .u8 0, .int .u8 0, .int .u8 0, .int .u8 0, .int .u8 0, .int .u8 0, .int .u8 0, .int .u8 0, .int .u8 0, .int .u8 0, .int .u8 0, .int .u8 0, .int .u8 0, .int .u8 0, .int .u8 0, .int .u8 0, .int .u8 0, .int .u8 0, .int .u8 0, .int .u8 0, .int .u8 0, .int .u8 0, .int .u8 0, .int .u8 0, .int .u8 0, .int .u8 0, .int .u8 0, .int .u8 0, .int .u8 0, .int .u8 0, .int .u8 0, .int .u8 0, .int .u8 0, .int .u8 0, .int .u8 0, .int .u8 0, .int .u8 0, .int .u8 0, .int .u8 0, .int .u8 0].toArray) := by kernel_rfl
theorem z106j : (Tryz.prog.info? 106).bind (·.zero) = some (.agg [.int .i64 0, .int .i64 0, .int .i64 0, .int .i64 0].toArray) := by kernel_rfl
theorem z109j : (Tryz.prog.info? 109).bind (·.zero) = some (.agg [.int .i64 0, .int .i64 0, .string ByteArray.empty].toArray) := by kernel_rfl

theorem in_version (rb ib : Nat) (u0 : Value) (l0 : List Int) (w : World) (a : Option Addr) (n c : Nat) (l : List Int) (hb : w.heap[rb]? = some (row 139 [.slice a n c])) (hfs : Fx [factB u0 l0, factO ib (inO rb)] w rb) (hD : ∀ W, SlB W u0 l0 → SlB W (.slice a n c) l) (hby : Byt l) (hcn : n ≤ c) (hl : l.length ≤ 1099511627776) :
    Calls Tryz.prog 113 #[.pointer (some ⟨ib, 0, none⟩)] w fun e w' => InP 139 157 w rb u0 l0 ((vrC).rn l) (Va vrV) e w' := by
  refine calls_of_p (args := [.pointer (some ⟨ib, 0, none⟩)]) ([rb]) ([rdM rb a n c]) ([factB u0 l0, factO ib (inO rb)]) Tryz.func113 rfl rfl (okM1 hb hfs) ?_
  refine J_seq ?_
  refine J_region ?_
  refine L_alloc rfl rfl rfl rfl z109j (fun b1 => ?_)
  refine L_nil ?_
  change J _ _ _ _
  refine J_seq ?_
  refine J_regionP ?_
  refine LP_one ?_
  refine L_v rfl rfl rfl (V_move rfl rfl) ?_
  refine L_nil ?_
  refine LP_in 0 rfl rfl rfl rfl rfl rfl tx61j rfl (fun w1 hw => in_n rb ib u0 l0 w1 _ _ _ _ (hw.at (i := 0) rfl) (fxIn hw rfl) hD hby hcn hl) (fun hk => KretP_panic rfl (fun w' h => InP.no (show (vrC).rn l = _ from prN1 (hk)) h.fr)) (fun p1 l1 v1 fs1 a1 n1 c1 hr1 hV1 hc1 hD1 hnw1 => ?_)
  obtain ⟨rfl, rfl⟩ := hV1
  have hby1 := Cdc.byt cC hby hr1
  have hl1 := Nat.le_trans (Cdc.short cC hby hr1) hl
  refine LP_one ?_
  refine L_v rfl rfl rfl (V_fieldAddr rfl rfl Tryz.underlying109 rfl sz3j rfl) ?_
  refine L_nil ?_
  refine LP_one ?_
  refine L_store1 1 (l' := vrV (p1, 0, ⟨#[]⟩)) rfl rfl rfl rfl rfl rfl rfl sz3j (Nat.le_of_ble_eq_true (by kernel_rfl)) (by kernel_rfl) ?_
  refine L_nil ?_
  refine LP_nil ?_
  change J _ _ _ _
  refine J_seq ?_
  refine J_le (st' := { env := [(0, .pointer (some ⟨ib, 0, none⟩)), (2, .pointer (some ⟨b1, 0, none⟩))], mem := [rdM rb a1 n1 c1, (b1, row 109 (vrV (p1, 0, ⟨#[]⟩)))], facts := [factB u0 l0, factO ib (inO rb)] }) ⟨⟨rfl, rfl, trivial⟩, List.Sublist.refl _, fun f hf => hf, rfl⟩ ?_
  refine J_regionP ?_
  refine LP_one ?_
  refine L_v rfl rfl rfl (V_move rfl rfl) ?_
  refine L_nil ?_
  refine LP_in 0 rfl rfl rfl rfl rfl rfl tx61j rfl (fun w1 hw => in_n rb ib u0 l0 w1 _ _ _ _ (hw.at (i := 0) rfl) (fxIn hw rfl) hD1 hby1 hc1 hl1) (fun hk => KretP_panic rfl (fun w' h => InP.no (show (vrC).rn l = _ from prN2 (hr1) (prN1 (hk))) h.fr)) (fun p2 l2 v2 fs2 a2 n2 c2 hr2 hV2 hc2 hD2 hnw2 => ?_)
  obtain ⟨rfl, rfl⟩ := hV2
  have hby2 := Cdc.byt cC hby1 hr2
  have hl2 := Nat.le_trans (Cdc.short cC hby1 hr2) hl1
  refine LP_one ?_
  refine L_v rfl rfl rfl (V_fieldAddr rfl rfl Tryz.underlying109 rfl sz107j rfl) ?_
  refine L_nil ?_
  refine LP_one ?_
  refine L_store1 1 (l' := vrV (p1, p2, ⟨#[]⟩)) rfl rfl rfl rfl rfl rfl rfl sz107j (Nat.le_of_ble_eq_true (by kernel_rfl)) (by kernel_rfl) ?_
  refine L_nil ?_
  refine LP_nil ?_
  change J _ _ _ _
  refine J_seq ?_
  refine J_le (st' := { env := [(0, .pointer (some ⟨ib, 0, none⟩)), (2, .pointer (some ⟨b1, 0, none⟩))], mem := [rdM rb a2 n2 c2, (b1, row 109 (vrV (p1, p2, ⟨#[]⟩)))], facts := [factB u0 l0, factO ib (inO rb)] }) ⟨⟨rfl, rfl, trivial⟩, List.Sublist.refl _, fun f hf => hf, rfl⟩ ?_
  refine J_regionP ?_
  refine LP_one ?_
  refine L_v rfl rfl rfl (V_move rfl rfl) ?_
  refine L_nil ?_
  refine LP_in 0 rfl rfl rfl rfl rfl rfl tx62j rfl (fun w1 hw => in_s rb ib u0 l0 w1 _ _ _ _ (hw.at (i := 0) rfl) (fxIn hw rfl) hD2 hby2 hc2 hl2) (fun hk => KretP_panic rfl (fun w' h => InP.no (show (vrC).rn l = _ from prN2 (hr1) (prN2 (hr2) (hk))) h.fr)) (fun p3 l3 v3 fs3 a3 n3 c3 hr3 hV3 hc3 hD3 hnw3 => ?_)
  obtain ⟨rfl, rfl⟩ := hV3
  have hby3 := Cdc.byt sC hby2 hr3
  have hl3 := Nat.le_trans (Cdc.short sC hby2 hr3) hl2
  refine LP_one ?_
  refine L_v rfl rfl rfl (V_fieldAddr rfl rfl Tryz.underlying109 rfl sz9j rfl) ?_
  refine L_nil ?_
  refine LP_one ?_
  refine L_store1 1 (l' := vrV (p1, p2, p3)) rfl rfl rfl rfl rfl rfl rfl sz9j (Nat.le_of_ble_eq_true (by kernel_rfl)) (by kernel_rfl) ?_
  refine L_nil ?_
  refine LP_nil ?_
  change J _ _ _ _
  refine J_seq ?_
  refine J_le (st' := { env := [(0, .pointer (some ⟨ib, 0, none⟩)), (2, .pointer (some ⟨b1, 0, none⟩))], mem := [rdM rb a3 n3 c3, (b1, row 109 (vrV (p1, p2, p3)))], facts := [factB u0 l0, factO ib (inO rb)] }) ⟨⟨rfl, rfl, trivial⟩, List.Sublist.refl _, fun f hf => hf, rfl⟩ ?_
  refine J_region ?_
  refine L_v rfl rfl rfl (V_loadW 1 rfl rfl rfl Tryz.underlying109 rfl (szd sz109j (by kernel_rfl))) ?_
  refine L_storeW 1 rfl rfl rfl rfl rfl rfl (szd sz109j (by kernel_rfl)) (all_one (by kernel_rfl)) (by kernel_rfl) ?_
  refine L_nil ?_
  change J _ _ _ _
  refine J_ret ?_
  change KretP _ _ _ Exit.ret _
  refine KretP_plain ?_
  refine ret1 rfl rfl (RV_c 1 rfl rfl Tryz.underlying109 rfl (szd sz109j (by kernel_rfl))) ?_
  exact fun w' h => InP.yes (show (vrC).rn l = _ from prY (hr1) (prY (hr2) (hr3))) h.fr ⟨rfl, rfl⟩ (by intro f hf; cases hf) (h.at (i := 0) rfl) hc3 hD3

theorem in_session (rb ib : Nat) (u0 : Value) (l0 : List Int) (w : World) (a : Option Addr) (n c : Nat) (l : List Int) (hb : w.heap[rb]? = some (row 139 [.slice a n c])) (hfs : Fx [factB u0 l0, factO ib (inO rb)] w rb) (hD : ∀ W, SlB W u0 l0 → SlB W (.slice a n c) l) (hby : Byt l) (hcn : n ≤ c) (hl : l.length ≤ 1099511627776) :
    Calls Tryz.prog 86 #[.pointer (some ⟨ib, 0, none⟩)] w fun e w' => InP 139 157 w rb u0 l0 ((seC).rn l) (Va seV) e w' := by
  refine calls_of_p (args := [.pointer (some ⟨ib, 0, none⟩)]) ([rb]) ([rdM rb a n c]) ([factB u0 l0, factO ib (inO rb)]) Tryz.func86 rfl rfl (okM1 hb hfs) ?_
  refine J_seq ?_
  refine J_region ?_
  refine L_alloc rfl rfl rfl rfl z106j (fun b1 => ?_)
  refine L_nil ?_
  change J _ _ _ _
  refine J_seq ?_
  refine J_regionP ?_
  refine LP_one ?_
  refine L_v rfl rfl rfl (V_move rfl rfl) ?_
  refine L_nil ?_
  refine LP_in 0 rfl rfl rfl rfl rfl rfl tx61j rfl (fun w1 hw => in_n rb ib u0 l0 w1 _ _ _ _ (hw.at (i := 0) rfl) (fxIn hw rfl) hD hby hcn hl) (fun hk => KretP_panic rfl (fun w' h => InP.no (show (seC).rn l = _ from prN1 (hk)) h.fr)) (fun p1 l1 v1 fs1 a1 n1 c1 hr1 hV1 hc1 hD1 hnw1 => ?_)
  obtain ⟨rfl, rfl⟩ := hV1
  have hby1 := Cdc.byt cC hby hr1
  have hl1 := Nat.le_trans (Cdc.short cC hby hr1) hl
  refine LP_one ?_
  refine L_v rfl rfl rfl (V_fieldAddr rfl rfl Tryz.underlying106 rfl sz3j rfl) ?_
  refine L_nil ?_
  refine LP_one ?_
  refine L_store1 1 (l' := seV (p1, 0, 0, 0)) rfl rfl rfl rfl rfl rfl rfl sz3j (Nat.le_of_ble_eq_true (by kernel_rfl)) (by kernel_rfl) ?_
  refine L_nil ?_
  refine LP_nil ?_
  change J _ _ _ _
  refine J_seq ?_
  refine J_le (st' := { env := [(0, .pointer (some ⟨ib, 0, none⟩)), (2, .pointer (some ⟨b1, 0, none⟩))], mem := [rdM rb a1 n1 c1, (b1, row 106 (seV (p1, 0, 0, 0)))], facts := [factB u0 l0, factO ib (inO rb)] }) ⟨⟨rfl, rfl, trivial⟩, List.Sublist.refl _, fun f hf => hf, rfl⟩ ?_
  refine J_regionP ?_
  refine LP_one ?_
  refine L_v rfl rfl rfl (V_move rfl rfl) ?_
  refine L_nil ?_
  refine LP_in 0 rfl rfl rfl rfl rfl rfl tx61j rfl (fun w1 hw => in_n rb ib u0 l0 w1 _ _ _ _ (hw.at (i := 0) rfl) (fxIn hw rfl) hD1 hby1 hc1 hl1) (fun hk => KretP_panic rfl (fun w' h => InP.no (show (seC).rn l = _ from prN2 (hr1) (prN1 (hk))) h.fr)) (fun p2 l2 v2 fs2 a2 n2 c2 hr2 hV2 hc2 hD2 hnw2 => ?_)
  obtain ⟨rfl, rfl⟩ := hV2
  have hby2 := Cdc.byt cC hby1 hr2
  have hl2 := Nat.le_trans (Cdc.short cC hby1 hr2) hl1
  refine LP_one ?_
  refine L_v rfl rfl rfl (V_fieldAddr rfl rfl Tryz.underlying106 rfl sz3j rfl) ?_
  refine L_nil ?_
  refine LP_one ?_
  refine L_store1 1 (l' := seV (p1, p2, 0, 0)) rfl rfl rfl rfl rfl rfl rfl sz3j (Nat.le_of_ble_eq_true (by kernel_rfl)) (by kernel_rfl) ?_
  refine L_nil ?_
  refine LP_nil ?_
  change J _ _ _ _
  refine J_seq ?_
  refine J_le (st' := { env := [(0, .pointer (some ⟨ib, 0, none⟩)), (2, .pointer (some ⟨b1, 0, none⟩))], mem := [rdM rb a2 n2 c2, (b1, row 106 (seV (p1, p2, 0, 0)))], facts := [factB u0 l0, factO ib (inO rb)] }) ⟨⟨rfl, rfl, trivial⟩, List.Sublist.refl _, fun f hf => hf, rfl⟩ ?_
  refine J_regionP ?_
  refine LP_one ?_
  refine L_v rfl rfl rfl (V_move rfl rfl) ?_
  refine L_nil ?_
  refine LP_in 0 rfl rfl rfl rfl rfl rfl tx61j rfl (fun w1 hw => in_n rb ib u0 l0 w1 _ _ _ _ (hw.at (i := 0) rfl) (fxIn hw rfl) hD2 hby2 hc2 hl2) (fun hk => KretP_panic rfl (fun w' h => InP.no (show (seC).rn l = _ from prN2 (hr1) (prN2 (hr2) (prN1 (hk)))) h.fr)) (fun p3 l3 v3 fs3 a3 n3 c3 hr3 hV3 hc3 hD3 hnw3 => ?_)
  obtain ⟨rfl, rfl⟩ := hV3
  have hby3 := Cdc.byt cC hby2 hr3
  have hl3 := Nat.le_trans (Cdc.short cC hby2 hr3) hl2
  refine LP_one ?_
  refine L_v rfl rfl rfl (V_fieldAddr rfl rfl Tryz.underlying106 rfl sz28j rfl) ?_
  refine L_nil ?_
  refine LP_one ?_
  refine L_store1 1 (l' := seV (p1, p2, p3, 0)) rfl rfl rfl rfl rfl rfl rfl sz28j (Nat.le_of_ble_eq_true (by kernel_rfl)) (by kernel_rfl) ?_
  refine L_nil ?_
  refine LP_nil ?_
  change J _ _ _ _
  refine J_seq ?_
  refine J_le (st' := { env := [(0, .pointer (some ⟨ib, 0, none⟩)), (2, .pointer (some ⟨b1, 0, none⟩))], mem := [rdM rb a3 n3 c3, (b1, row 106 (seV (p1, p2, p3, 0)))], facts := [factB u0 l0, factO ib (inO rb)] }) ⟨⟨rfl, rfl, trivial⟩, List.Sublist.refl _, fun f hf => hf, rfl⟩ ?_
  refine J_regionP ?_
  refine LP_one ?_
  refine L_v rfl rfl rfl (V_move rfl rfl) ?_
  refine L_nil ?_
  refine LP_in 0 rfl rfl rfl rfl rfl rfl tx61j rfl (fun w1 hw => in_n rb ib u0 l0 w1 _ _ _ _ (hw.at (i := 0) rfl) (fxIn hw rfl) hD3 hby3 hc3 hl3) (fun hk => KretP_panic rfl (fun w' h => InP.no (show (seC).rn l = _ from prN2 (hr1) (prN2 (hr2) (prN2 (hr3) (hk)))) h.fr)) (fun p4 l4 v4 fs4 a4 n4 c4 hr4 hV4 hc4 hD4 hnw4 => ?_)
  obtain ⟨rfl, rfl⟩ := hV4
  have hby4 := Cdc.byt cC hby3 hr4
  have hl4 := Nat.le_trans (Cdc.short cC hby3 hr4) hl3
  refine LP_one ?_
  refine L_v rfl rfl rfl (V_fieldAddr rfl rfl Tryz.underlying106 rfl sz3j rfl) ?_
  refine L_nil ?_
  refine LP_one ?_
  refine L_store1 1 (l' := seV (p1, p2, p3, p4)) rfl rfl rfl rfl rfl rfl rfl sz3j (Nat.le_of_ble_eq_true (by kernel_rfl)) (by kernel_rfl) ?_
  refine L_nil ?_
  refine LP_nil ?_
  change J _ _ _ _
  refine J_seq ?_
  refine J_le (st' := { env := [(0, .pointer (some ⟨ib, 0, none⟩)), (2, .pointer (some ⟨b1, 0, none⟩))], mem := [rdM rb a4 n4 c4, (b1, row 106 (seV (p1, p2, p3, p4)))], facts := [factB u0 l0, factO ib (inO rb)] }) ⟨⟨rfl, rfl, trivial⟩, List.Sublist.refl _, fun f hf => hf, rfl⟩ ?_
  refine J_region ?_
  refine L_v rfl rfl rfl (V_loadW 1 rfl rfl rfl Tryz.underlying106 rfl (szd sz106j (by kernel_rfl))) ?_
  refine L_storeW 1 rfl rfl rfl rfl rfl rfl (szd sz106j (by kernel_rfl)) (all_one (by kernel_rfl)) (by kernel_rfl) ?_
  refine L_nil ?_
  change J _ _ _ _
  refine J_ret ?_
  change KretP _ _ _ Exit.ret _
  refine KretP_plain ?_
  refine ret1 rfl rfl (RV_c 1 rfl rfl Tryz.underlying106 rfl (szd sz106j (by kernel_rfl))) ?_
  exact fun w' h => InP.yes (show (seC).rn l = _ from prY (hr1) (prY (hr2) (prY (hr3) (hr4)))) h.fr ⟨rfl, rfl⟩ (by intro f hf; cases hf) (h.at (i := 0) rfl) hc4 hD4

theorem in_head (rb ib : Nat) (u0 : Value) (l0 : List Int) (w : World) (a : Option Addr) (n c : Nat) (l : List Int) (hb : w.heap[rb]? = some (row 139 [.slice a n c])) (hfs : Fx [factB u0 l0, factO ib (inO rb)] w rb) (hD : ∀ W, SlB W u0 l0 → SlB W (.slice a n c) l) (hby : Byt l) (hcn : n ≤ c) (hl : l.length ≤ 1099511627776) :
    Calls Tryz.prog 78 #[.pointer (some ⟨ib, 0, none⟩)] w fun e w' => InP 139 157 w rb u0 l0 ((hdC).rn l) (Va hdV) e w' := by
  refine calls_of_p (args := [.pointer (some ⟨ib, 0, none⟩)]) ([rb]) ([rdM rb a n c]) ([factB u0 l0, factO ib (inO rb)]) Tryz.func78 rfl rfl (okM1 hb hfs) ?_
  refine J_seq ?_
  refine J_region ?_
  refine L_alloc rfl rfl rfl rfl z47j (fun b1 => ?_)
  refine L_nil ?_
  change J _ _ _ _
  refine J_seq ?_
  refine J_regionP ?_
  refine LP_one ?_
  refine L_v rfl rfl rfl (V_move rfl rfl) ?_
  refine L_nil ?_
  refine LP_in 0 rfl rfl rfl rfl rfl rfl tx61j rfl (fun w1 hw => in_n rb ib u0 l0 w1 _ _ _ _ (hw.at (i := 0) rfl) (fxIn hw rfl) hD hby hcn hl) (fun hk => KretP_panic rfl (fun w' h => InP.no (show (hdC).rn l = _ from prN1 (hk)) h.fr)) (fun p1 l1 v1 fs1 a1 n1 c1 hr1 hV1 hc1 hD1 hnw1 => ?_)
  obtain ⟨rfl, rfl⟩ := hV1
  have hby1 := Cdc.byt cC hby hr1
  have hl1 := Nat.le_trans (Cdc.short cC hby hr1) hl
  refine LP_one ?_
  refine L_v rfl rfl rfl (V_fieldAddr rfl rfl Tryz.underlying47 rfl sz3j rfl) ?_
  refine L_nil ?_
  refine LP_one ?_
  refine L_store1 1 (l' := hdV (p1, dz, dz)) rfl rfl rfl rfl rfl rfl rfl sz3j (Nat.le_of_ble_eq_true (by kernel_rfl)) (by kernel_rfl) ?_
  refine L_nil ?_
  refine LP_nil ?_
  change J _ _ _ _
  refine J_seq ?_
  refine J_le (st' := { env := [(0, .pointer (some ⟨ib, 0, none⟩)), (2, .pointer (some ⟨b1, 0, none⟩))], mem := [rdM rb a1 n1 c1, (b1, row 47 (hdV (p1, dz, dz)))], facts := [factB u0 l0, factO ib (inO rb)] }) ⟨⟨rfl, rfl, trivial⟩, List.Sublist.refl _, fun f hf => hf, rfl⟩ ?_
  refine J_regionP ?_
  refine LP_one ?_
  refine L_v rfl rfl rfl (V_move rfl rfl) ?_
  refine L_nil ?_
  refine LP_in 0 rfl rfl rfl rfl rfl rfl tx63j rfl (fun w1 hw => in_d rb ib u0 l0 w1 _ _ _ _ (hw.at (i := 0) rfl) (fxIn hw rfl) hD1 hby1 hc1 hl1) (fun hk => KretP_panic rfl (fun w' h => InP.no (show (hdC).rn l = _ from prN2 (hr1) (prN1 (hk))) h.fr)) (fun p2 l2 v2 fs2 a2 n2 c2 hr2 hV2 hc2 hD2 hnw2 => ?_)
  obtain ⟨rfl, rfl⟩ := hV2
  have hby2 := Cdc.byt dC hby1 hr2
  have hl2 := Nat.le_trans (Cdc.short dC hby1 hr2) hl1
  refine LP_one ?_
  refine L_v rfl rfl rfl (V_fieldAddr rfl rfl Tryz.underlying47 rfl sz25j rfl) ?_
  refine L_nil ?_
  refine LP_one ?_
  refine L_storeT 1 (l' := hdV (p1, p2, dz)) rfl rfl rfl rfl rfl rfl (szd sz25j (by kernel_rfl)) (all_one (by kernel_rfl)) (Nat.le_of_ble_eq_true (by kernel_rfl)) (by kernel_rfl) ?_
  refine L_nil ?_
  refine LP_nil ?_
  change J _ _ _ _
  refine J_seq ?_
  refine J_le (st' := { env := [(0, .pointer (some ⟨ib, 0, none⟩)), (2, .pointer (some ⟨b1, 0, none⟩))], mem := [rdM rb a2 n2 c2, (b1, row 47 (hdV (p1, p2, dz)))], facts := [factB u0 l0, factO ib (inO rb)] }) ⟨⟨rfl, rfl, trivial⟩, List.Sublist.refl _, fun f hf => hf, rfl⟩ ?_
  refine J_regionP ?_
  refine LP_one ?_
  refine L_v rfl rfl rfl (V_move rfl rfl) ?_
  refine L_nil ?_
  refine LP_in 0 rfl rfl rfl rfl rfl rfl tx63j rfl (fun w1 hw => in_d rb ib u0 l0 w1 _ _ _ _ (hw.at (i := 0) rfl) (fxIn hw rfl) hD2 hby2 hc2 hl2) (fun hk => KretP_panic rfl (fun w' h => InP.no (show (hdC).rn l = _ from prN2 (hr1) (prN2 (hr2) (hk))) h.fr)) (fun p3 l3 v3 fs3 a3 n3 c3 hr3 hV3 hc3 hD3 hnw3 => ?_)
  obtain ⟨rfl, rfl⟩ := hV3
  have hby3 := Cdc.byt dC hby2 hr3
  have hl3 := Nat.le_trans (Cdc.short dC hby2 hr3) hl2
  refine LP_one ?_
  refine L_v rfl rfl rfl (V_fieldAddr rfl rfl Tryz.underlying47 rfl sz25j rfl) ?_
  refine L_nil ?_
  refine LP_one ?_
  refine L_storeT 1 (l' := hdV (p1, p2, p3)) rfl rfl rfl rfl rfl rfl (szd sz25j (by kernel_rfl)) (all_one (by kernel_rfl)) (Nat.le_of_ble_eq_true (by kernel_rfl)) (by kernel_rfl) ?_
  refine L_nil ?_
  refine LP_nil ?_
  change J _ _ _ _
  refine J_seq ?_
  refine J_le (st' := { env := [(0, .pointer (some ⟨ib, 0, none⟩)), (2, .pointer (some ⟨b1, 0, none⟩))], mem := [rdM rb a3 n3 c3, (b1, row 47 (hdV (p1, p2, p3)))], facts := [factB u0 l0, factO ib (inO rb)] }) ⟨⟨rfl, rfl, trivial⟩, List.Sublist.refl _, fun f hf => hf, rfl⟩ ?_
  refine J_region ?_
  refine L_v rfl rfl rfl (V_loadW 1 rfl rfl rfl Tryz.underlying47 rfl (szd sz47j (by kernel_rfl))) ?_
  refine L_storeW 1 rfl rfl rfl rfl rfl rfl (szd sz47j (by kernel_rfl)) (all_one (by kernel_rfl)) (by kernel_rfl) ?_
  refine L_nil ?_
  change J _ _ _ _
  refine J_ret ?_
  change KretP _ _ _ Exit.ret _
  refine KretP_plain ?_
  refine ret1 rfl rfl (RV_c 1 rfl rfl Tryz.underlying47 rfl (szd sz47j (by kernel_rfl))) ?_
  exact fun w' h => InP.yes (show (hdC).rn l = _ from prY (hr1) (prY (hr2) (hr3))) h.fr ⟨rfl, rfl⟩ (by intro f hf; cases hf) (h.at (i := 0) rfl) hc3 hD3

theorem in_signed (rb ib : Nat) (u0 : Value) (l0 : List Int) (w : World) (a : Option Addr) (n c : Nat) (l : List Int) (hb : w.heap[rb]? = some (row 139 [.slice a n c])) (hfs : Fx [factB u0 l0, factO ib (inO rb)] w rb) (hD : ∀ W, SlB W u0 l0 → SlB W (.slice a n c) l) (hby : Byt l) (hcn : n ≤ c) (hl : l.length ≤ 1099511627776) :
    Calls Tryz.prog 48 #[.pointer (some ⟨ib, 0, none⟩)] w fun e w' => InP 139 157 w rb u0 l0 ((sgC).rn l) (Va sgV) e w' := by
  refine calls_of_p (args := [.pointer (some ⟨ib, 0, none⟩)]) ([rb]) ([rdM rb a n c]) ([factB u0 l0, factO ib (inO rb)]) Tryz.func48 rfl rfl (okM1 hb hfs) ?_
  refine J_seq ?_
  refine J_region ?_
  refine L_alloc rfl rfl rfl rfl z49j (fun b1 => ?_)
  refine L_nil ?_
  change J _ _ _ _
  refine J_seq ?_
  refine J_regionP ?_
  refine LP_one ?_
  refine L_v rfl rfl rfl (V_move rfl rfl) ?_
  refine L_nil ?_
  refine LP_in 0 rfl rfl rfl rfl rfl rfl tx78j rfl (fun w1 hw => in_head rb ib u0 l0 w1 _ _ _ _ (hw.at (i := 0) rfl) (fxIn hw rfl) hD hby hcn hl) (fun hk => KretP_panic rfl (fun w' h => InP.no (show (sgC).rn l = _ from prN1 (hk)) h.fr)) (fun p1 l1 v1 fs1 a1 n1 c1 hr1 hV1 hc1 hD1 hnw1 => ?_)
  obtain ⟨rfl, rfl⟩ := hV1
  have hby1 := Cdc.byt hdC hby hr1
  have hl1 := Nat.le_trans (Cdc.short hdC hby hr1) hl
  refine LP_one ?_
  refine L_v rfl rfl rfl (V_fieldAddr rfl rfl Tryz.underlying49 rfl sz47j rfl) ?_
  refine L_nil ?_
  refine LP_one ?_
  refine L_storeT 1 (l' := sgV (p1, dz)) rfl rfl rfl rfl rfl rfl (szd sz47j (by kernel_rfl)) (all_one (by kernel_rfl)) (Nat.le_of_ble_eq_true (by kernel_rfl)) (by kernel_rfl) ?_
  refine L_nil ?_
  refine LP_nil ?_
  change J _ _ _ _
  refine J_seq ?_
  refine J_le (st' := { env := [(0, .pointer (some ⟨ib, 0, none⟩)), (2, .pointer (some ⟨b1, 0, none⟩))], mem := [rdM rb a1 n1 c1, (b1, row 49 (sgV (p1, dz)))], facts := [factB u0 l0, factO ib (inO rb)] }) ⟨⟨rfl, rfl, trivial⟩, List.Sublist.refl _, fun f hf => hf, rfl⟩ ?_
  refine J_regionP ?_
  refine LP_one ?_
  refine L_v rfl rfl rfl (V_move rfl rfl) ?_
  refine L_nil ?_
  refine LP_in 0 rfl rfl rfl rfl rfl rfl tx63j rfl (fun w1 hw => in_d rb ib u0 l0 w1 _ _ _ _ (hw.at (i := 0) rfl) (fxIn hw rfl) hD1 hby1 hc1 hl1) (fun hk => KretP_panic rfl (fun w' h => InP.no (show (sgC).rn l = _ from prN2 (hr1) (hk)) h.fr)) (fun p2 l2 v2 fs2 a2 n2 c2 hr2 hV2 hc2 hD2 hnw2 => ?_)
  obtain ⟨rfl, rfl⟩ := hV2
  have hby2 := Cdc.byt dC hby1 hr2
  have hl2 := Nat.le_trans (Cdc.short dC hby1 hr2) hl1
  refine LP_one ?_
  refine L_v rfl rfl rfl (V_fieldAddr rfl rfl Tryz.underlying49 rfl sz25j rfl) ?_
  refine L_nil ?_
  refine LP_one ?_
  refine L_storeT 1 (l' := sgV (p1, p2)) rfl rfl rfl rfl rfl rfl (szd sz25j (by kernel_rfl)) (all_one (by kernel_rfl)) (Nat.le_of_ble_eq_true (by kernel_rfl)) (by kernel_rfl) ?_
  refine L_nil ?_
  refine LP_nil ?_
  change J _ _ _ _
  refine J_seq ?_
  refine J_le (st' := { env := [(0, .pointer (some ⟨ib, 0, none⟩)), (2, .pointer (some ⟨b1, 0, none⟩))], mem := [rdM rb a2 n2 c2, (b1, row 49 (sgV (p1, p2)))], facts := [factB u0 l0, factO ib (inO rb)] }) ⟨⟨rfl, rfl, trivial⟩, List.Sublist.refl _, fun f hf => hf, rfl⟩ ?_
  refine J_region ?_
  refine L_v rfl rfl rfl (V_loadW 1 rfl rfl rfl Tryz.underlying49 rfl (szd sz49j (by kernel_rfl))) ?_
  refine L_storeW 1 rfl rfl rfl rfl rfl rfl (szd sz49j (by kernel_rfl)) (all_one (by kernel_rfl)) (by kernel_rfl) ?_
  refine L_nil ?_
  change J _ _ _ _
  refine J_ret ?_
  change KretP _ _ _ Exit.ret _
  refine KretP_plain ?_
  refine ret1 rfl rfl (RV_c 1 rfl rfl Tryz.underlying49 rfl (szd sz49j (by kernel_rfl))) ?_
  exact fun w' h => InP.yes (show (sgC).rn l = _ from prY (hr1) (hr2)) h.fr ⟨rfl, rfl⟩ (by intro f hf; cases hf) (h.at (i := 0) rfl) hc2 hD2

theorem in_command (rb ib : Nat) (u0 : Value) (l0 : List Int) (w : World) (a : Option Addr) (n c : Nat) (l : List Int) (hb : w.heap[rb]? = some (row 139 [.slice a n c])) (hfs : Fx [factB u0 l0, factO ib (inO rb)] w rb) (hD : ∀ W, SlB W u0 l0 → SlB W (.slice a n c) l) (hby : Byt l) (hcn : n ≤ c) (hl : l.length ≤ 1099511627776) :
    Calls Tryz.prog 28 #[.pointer (some ⟨ib, 0, none⟩)] w fun e w' => InP 139 157 w rb u0 l0 ((cmdC).rn l) (Va cmdV) e w' := by
  refine calls_of_p (args := [.pointer (some ⟨ib, 0, none⟩)]) ([rb]) ([rdM rb a n c]) ([factB u0 l0, factO ib (inO rb)]) Tryz.func28 rfl rfl (okM1 hb hfs) ?_
  refine J_seq ?_
  refine J_region ?_
  refine L_alloc rfl rfl rfl rfl z27j (fun b1 => ?_)
  refine L_nil ?_
  change J _ _ _ _
  refine J_seq ?_
  refine J_regionP ?_
  refine LP_one ?_
  refine L_v rfl rfl rfl (V_move rfl rfl) ?_
  refine L_nil ?_
  refine LP_in 0 rfl rfl rfl rfl rfl rfl tx61j rfl (fun w1 hw => in_n rb ib u0 l0 w1 _ _ _ _ (hw.at (i := 0) rfl) (fxIn hw rfl) hD hby hcn hl) (fun hk => KretP_panic rfl (fun w' h => InP.no (show (cmdC).rn l = _ from prN1 (hk)) h.fr)) (fun p1 l1 v1 fs1 a1 n1 c1 hr1 hV1 hc1 hD1 hnw1 => ?_)
  obtain ⟨rfl, rfl⟩ := hV1
  have hby1 := Cdc.byt cC hby hr1
  have hl1 := Nat.le_trans (Cdc.short cC hby hr1) hl
  refine LP_one ?_
  refine L_v rfl rfl rfl (V_fieldAddr rfl rfl Tryz.underlying27 rfl sz23j rfl) ?_
  refine L_nil ?_
  refine LP_one ?_
  refine L_store1 1 (l' := cmdV (p1, 0, 0, ⟨#[]⟩, ⟨#[]⟩, 0, dz)) rfl rfl rfl rfl rfl rfl rfl sz23j (Nat.le_of_ble_eq_true (by kernel_rfl)) (by kernel_rfl) ?_
  refine L_nil ?_
  refine LP_nil ?_
  change J _ _ _ _
  refine J_seq ?_
  refine J_le (st' := { env := [(0, .pointer (some ⟨ib, 0, none⟩)), (2, .pointer (some ⟨b1, 0, none⟩))], mem := [rdM rb a1 n1 c1, (b1, row 27 (cmdV (p1, 0, 0, ⟨#[]⟩, ⟨#[]⟩, 0, dz)))], facts := [factB u0 l0, factO ib (inO rb)] }) ⟨⟨rfl, rfl, trivial⟩, List.Sublist.refl _, fun f hf => hf, rfl⟩ ?_
  refine J_regionP ?_
  refine LP_one ?_
  refine L_v rfl rfl rfl (V_move rfl rfl) ?_
  refine L_nil ?_
  refine LP_in 0 rfl rfl rfl rfl rfl rfl tx61j rfl (fun w1 hw => in_n rb ib u0 l0 w1 _ _ _ _ (hw.at (i := 0) rfl) (fxIn hw rfl) hD1 hby1 hc1 hl1) (fun hk => KretP_panic rfl (fun w' h => InP.no (show (cmdC).rn l = _ from prN2 (hr1) (prN1 (hk))) h.fr)) (fun p2 l2 v2 fs2 a2 n2 c2 hr2 hV2 hc2 hD2 hnw2 => ?_)
  obtain ⟨rfl, rfl⟩ := hV2
  have hby2 := Cdc.byt cC hby1 hr2
  have hl2 := Nat.le_trans (Cdc.short cC hby1 hr2) hl1
  refine LP_one ?_
  refine L_v rfl rfl rfl (V_fieldAddr rfl rfl Tryz.underlying27 rfl sz3j rfl) ?_
  refine L_nil ?_
  refine LP_one ?_
  refine L_store1 1 (l' := cmdV (p1, p2, 0, ⟨#[]⟩, ⟨#[]⟩, 0, dz)) rfl rfl rfl rfl rfl rfl rfl sz3j (Nat.le_of_ble_eq_true (by kernel_rfl)) (by kernel_rfl) ?_
  refine L_nil ?_
  refine LP_nil ?_
  change J _ _ _ _
  refine J_seq ?_
  refine J_le (st' := { env := [(0, .pointer (some ⟨ib, 0, none⟩)), (2, .pointer (some ⟨b1, 0, none⟩))], mem := [rdM rb a2 n2 c2, (b1, row 27 (cmdV (p1, p2, 0, ⟨#[]⟩, ⟨#[]⟩, 0, dz)))], facts := [factB u0 l0, factO ib (inO rb)] }) ⟨⟨rfl, rfl, trivial⟩, List.Sublist.refl _, fun f hf => hf, rfl⟩ ?_
  refine J_regionP ?_
  refine LP_one ?_
  refine L_v rfl rfl rfl (V_move rfl rfl) ?_
  refine L_nil ?_
  refine LP_in 0 rfl rfl rfl rfl rfl rfl tx61j rfl (fun w1 hw => in_n rb ib u0 l0 w1 _ _ _ _ (hw.at (i := 0) rfl) (fxIn hw rfl) hD2 hby2 hc2 hl2) (fun hk => KretP_panic rfl (fun w' h => InP.no (show (cmdC).rn l = _ from prN2 (hr1) (prN2 (hr2) (prN1 (hk)))) h.fr)) (fun p3 l3 v3 fs3 a3 n3 c3 hr3 hV3 hc3 hD3 hnw3 => ?_)
  obtain ⟨rfl, rfl⟩ := hV3
  have hby3 := Cdc.byt cC hby2 hr3
  have hl3 := Nat.le_trans (Cdc.short cC hby2 hr3) hl2
  refine LP_one ?_
  refine L_v rfl rfl rfl (V_fieldAddr rfl rfl Tryz.underlying27 rfl sz3j rfl) ?_
  refine L_nil ?_
  refine LP_one ?_
  refine L_store1 1 (l' := cmdV (p1, p2, p3, ⟨#[]⟩, ⟨#[]⟩, 0, dz)) rfl rfl rfl rfl rfl rfl rfl sz3j (Nat.le_of_ble_eq_true (by kernel_rfl)) (by kernel_rfl) ?_
  refine L_nil ?_
  refine LP_nil ?_
  change J _ _ _ _
  refine J_seq ?_
  refine J_le (st' := { env := [(0, .pointer (some ⟨ib, 0, none⟩)), (2, .pointer (some ⟨b1, 0, none⟩))], mem := [rdM rb a3 n3 c3, (b1, row 27 (cmdV (p1, p2, p3, ⟨#[]⟩, ⟨#[]⟩, 0, dz)))], facts := [factB u0 l0, factO ib (inO rb)] }) ⟨⟨rfl, rfl, trivial⟩, List.Sublist.refl _, fun f hf => hf, rfl⟩ ?_
  refine J_regionP ?_
  refine LP_one ?_
  refine L_v rfl rfl rfl (V_move rfl rfl) ?_
  refine L_nil ?_
  refine LP_in 0 rfl rfl rfl rfl rfl rfl tx62j rfl (fun w1 hw => in_s rb ib u0 l0 w1 _ _ _ _ (hw.at (i := 0) rfl) (fxIn hw rfl) hD3 hby3 hc3 hl3) (fun hk => KretP_panic rfl (fun w' h => InP.no (show (cmdC).rn l = _ from prN2 (hr1) (prN2 (hr2) (prN2 (hr3) (prN1 (hk))))) h.fr)) (fun p4 l4 v4 fs4 a4 n4 c4 hr4 hV4 hc4 hD4 hnw4 => ?_)
  obtain ⟨rfl, rfl⟩ := hV4
  have hby4 := Cdc.byt sC hby3 hr4
  have hl4 := Nat.le_trans (Cdc.short sC hby3 hr4) hl3
  refine LP_one ?_
  refine L_v rfl rfl rfl (V_fieldAddr rfl rfl Tryz.underlying27 rfl sz9j rfl) ?_
  refine L_nil ?_
  refine LP_one ?_
  refine L_store1 1 (l' := cmdV (p1, p2, p3, p4, ⟨#[]⟩, 0, dz)) rfl rfl rfl rfl rfl rfl rfl sz9j (Nat.le_of_ble_eq_true (by kernel_rfl)) (by kernel_rfl) ?_
  refine L_nil ?_
  refine LP_nil ?_
  change J _ _ _ _
  refine J_seq ?_
  refine J_le (st' := { env := [(0, .pointer (some ⟨ib, 0, none⟩)), (2, .pointer (some ⟨b1, 0, none⟩))], mem := [rdM rb a4 n4 c4, (b1, row 27 (cmdV (p1, p2, p3, p4, ⟨#[]⟩, 0, dz)))], facts := [factB u0 l0, factO ib (inO rb)] }) ⟨⟨rfl, rfl, trivial⟩, List.Sublist.refl _, fun f hf => hf, rfl⟩ ?_
  refine J_regionP ?_
  refine LP_one ?_
  refine L_v rfl rfl rfl (V_move rfl rfl) ?_
  refine L_nil ?_
  refine LP_in 0 rfl rfl rfl rfl rfl rfl tx62j rfl (fun w1 hw => in_s rb ib u0 l0 w1 _ _ _ _ (hw.at (i := 0) rfl) (fxIn hw rfl) hD4 hby4 hc4 hl4) (fun hk => KretP_panic rfl (fun w' h => InP.no (show (cmdC).rn l = _ from prN2 (hr1) (prN2 (hr2) (prN2 (hr3) (prN2 (hr4) (prN1 (hk)))))) h.fr)) (fun p5 l5 v5 fs5 a5 n5 c5 hr5 hV5 hc5 hD5 hnw5 => ?_)
  obtain ⟨rfl, rfl⟩ := hV5
  have hby5 := Cdc.byt sC hby4 hr5
  have hl5 := Nat.le_trans (Cdc.short sC hby4 hr5) hl4
  refine LP_one ?_
  refine L_v rfl rfl rfl (V_fieldAddr rfl rfl Tryz.underlying27 rfl sz9j rfl) ?_
  refine L_nil ?_
  refine LP_one ?_
  refine L_store1 1 (l' := cmdV (p1, p2, p3, p4, p5, 0, dz)) rfl rfl rfl rfl rfl rfl rfl sz9j (Nat.le_of_ble_eq_true (by kernel_rfl)) (by kernel_rfl) ?_
  refine L_nil ?_
  refine LP_nil ?_
  change J _ _ _ _
  refine J_seq ?_
  refine J_le (st' := { env := [(0, .pointer (some ⟨ib, 0, none⟩)), (2, .pointer (some ⟨b1, 0, none⟩))], mem := [rdM rb a5 n5 c5, (b1, row 27 (cmdV (p1, p2, p3, p4, p5, 0, dz)))], facts := [factB u0 l0, factO ib (inO rb)] }) ⟨⟨rfl, rfl, trivial⟩, List.Sublist.refl _, fun f hf => hf, rfl⟩ ?_
  refine J_regionP ?_
  refine LP_one ?_
  refine L_v rfl rfl rfl (V_move rfl rfl) ?_
  refine L_nil ?_
  refine LP_in 0 rfl rfl rfl rfl rfl rfl tx61j rfl (fun w1 hw => in_n rb ib u0 l0 w1 _ _ _ _ (hw.at (i := 0) rfl) (fxIn hw rfl) hD5 hby5 hc5 hl5) (fun hk => KretP_panic rfl (fun w' h => InP.no (show (cmdC).rn l = _ from prN2 (hr1) (prN2 (hr2) (prN2 (hr3) (prN2 (hr4) (prN2 (hr5) (prN1 (hk))))))) h.fr)) (fun p6 l6 v6 fs6 a6 n6 c6 hr6 hV6 hc6 hD6 hnw6 => ?_)
  obtain ⟨rfl, rfl⟩ := hV6
  have hby6 := Cdc.byt cC hby5 hr6
  have hl6 := Nat.le_trans (Cdc.short cC hby5 hr6) hl5
  refine LP_one ?_
  refine L_v rfl rfl rfl (V_fieldAddr rfl rfl Tryz.underlying27 rfl sz3j rfl) ?_
  refine L_nil ?_
  refine LP_one ?_
  refine L_store1 1 (l' := cmdV (p1, p2, p3, p4, p5, p6, dz)) rfl rfl rfl rfl rfl rfl rfl sz3j (Nat.le_of_ble_eq_true (by kernel_rfl)) (by kernel_rfl) ?_
  refine L_nil ?_
  refine LP_nil ?_
  change J _ _ _ _
  refine J_seq ?_
  refine J_le (st' := { env := [(0, .pointer (some ⟨ib, 0, none⟩)), (2, .pointer (some ⟨b1, 0, none⟩))], mem := [rdM rb a6 n6 c6, (b1, row 27 (cmdV (p1, p2, p3, p4, p5, p6, dz)))], facts := [factB u0 l0, factO ib (inO rb)] }) ⟨⟨rfl, rfl, trivial⟩, List.Sublist.refl _, fun f hf => hf, rfl⟩ ?_
  refine J_regionP ?_
  refine LP_one ?_
  refine L_v rfl rfl rfl (V_move rfl rfl) ?_
  refine L_nil ?_
  refine LP_in 0 rfl rfl rfl rfl rfl rfl tx63j rfl (fun w1 hw => in_d rb ib u0 l0 w1 _ _ _ _ (hw.at (i := 0) rfl) (fxIn hw rfl) hD6 hby6 hc6 hl6) (fun hk => KretP_panic rfl (fun w' h => InP.no (show (cmdC).rn l = _ from prN2 (hr1) (prN2 (hr2) (prN2 (hr3) (prN2 (hr4) (prN2 (hr5) (prN2 (hr6) (hk))))))) h.fr)) (fun p7 l7 v7 fs7 a7 n7 c7 hr7 hV7 hc7 hD7 hnw7 => ?_)
  obtain ⟨rfl, rfl⟩ := hV7
  have hby7 := Cdc.byt dC hby6 hr7
  have hl7 := Nat.le_trans (Cdc.short dC hby6 hr7) hl6
  refine LP_one ?_
  refine L_v rfl rfl rfl (V_fieldAddr rfl rfl Tryz.underlying27 rfl sz25j rfl) ?_
  refine L_nil ?_
  refine LP_one ?_
  refine L_storeT 1 (l' := cmdV (p1, p2, p3, p4, p5, p6, p7)) rfl rfl rfl rfl rfl rfl (szd sz25j (by kernel_rfl)) (all_one (by kernel_rfl)) (Nat.le_of_ble_eq_true (by kernel_rfl)) (by kernel_rfl) ?_
  refine L_nil ?_
  refine LP_nil ?_
  change J _ _ _ _
  refine J_seq ?_
  refine J_le (st' := { env := [(0, .pointer (some ⟨ib, 0, none⟩)), (2, .pointer (some ⟨b1, 0, none⟩))], mem := [rdM rb a7 n7 c7, (b1, row 27 (cmdV (p1, p2, p3, p4, p5, p6, p7)))], facts := [factB u0 l0, factO ib (inO rb)] }) ⟨⟨rfl, rfl, trivial⟩, List.Sublist.refl _, fun f hf => hf, rfl⟩ ?_
  refine J_region ?_
  refine L_v rfl rfl rfl (V_loadW 1 rfl rfl rfl Tryz.underlying27 rfl (szd sz27j (by kernel_rfl))) ?_
  refine L_storeW 1 rfl rfl rfl rfl rfl rfl (szd sz27j (by kernel_rfl)) (all_one (by kernel_rfl)) (by kernel_rfl) ?_
  refine L_nil ?_
  change J _ _ _ _
  refine J_ret ?_
  change KretP _ _ _ Exit.ret _
  refine KretP_plain ?_
  refine ret1 rfl rfl (RV_c 1 rfl rfl Tryz.underlying27 rfl (szd sz27j (by kernel_rfl))) ?_
  exact fun w' h => InP.yes (show (cmdC).rn l = _ from prY (hr1) (prY (hr2) (prY (hr3) (prY (hr4) (prY (hr5) (prY (hr6) (hr7))))))) h.fr ⟨rfl, rfl⟩ (by intro f hf; cases hf) (h.at (i := 0) rfl) hc7 hD7

end Go.Proofs.YtfgcfjojpakpjaaGreat
