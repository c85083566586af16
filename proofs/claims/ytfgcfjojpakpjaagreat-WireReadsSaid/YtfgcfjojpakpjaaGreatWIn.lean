/- What layer 8 reads: counts, texts, digests, and messages by their parts. -/
import Derived.Test.YtfgcfjojpakpjaaGreatSx12
import Derived.Test.YtfgcfjojpakpjaaGreatWPuts
import Derived.Test.YtfgcfjojpakpjaaGreatOctetRead
set_option linter.unusedVariables false
set_option linter.unusedSimpArgs false
set_option maxRecDepth 100000
namespace Go.Proofs.YtfgcfjojpakpjaaGreat
open Go.Sx
abbrev Vi (x : Int) (v : Value) (fs : List Fact) : Prop := v = vi x ∧ fs = []
abbrev Vs (x : ByteArray) (v : Value) (fs : List Fact) : Prop := v = .string x ∧ fs = []
abbrev Vd (x : Dg) (v : Value) (fs : List Fact) : Prop := v = .agg (dg (l32 x)).toArray ∧ fs = []
abbrev Va {α : Type} (f : α → List Value) (x : α) (v : Value) (fs : List Fact) : Prop := v = .agg (f x).toArray ∧ fs = []
abbrev VlI (x : List Int) (v : Value) (fs : List Fact) : Prop := (∃ a c, v = .slice a x.length c) ∧ fs = [factC 1 v x.length (ints x)]
abbrev Vl {α : Type} (sz : Nat) (f : α → List Value) (x : List α) (v : Value) (fs : List Fact) : Prop := (∃ a c, v = .slice a x.length c) ∧ fs = [factC sz v x.length (x.map f).flatten]
abbrev Vcl (x : Cl) (v : Value) (fs : List Fact) : Prop := ∃ v1 v2, v = .agg (clV v1 v2).toArray ∧ fs = clF v1 v2 x
abbrev Ven (x : En) (v : Value) (fs : List Fact) : Prop := ∃ v1 v2, v = .agg (enV x v1 v2).toArray ∧ fs = clF v1 v2 x.2.2.2.2
abbrev Vrec (x : Rec) (v : Value) (fs : List Fact) : Prop := ∃ v1 v2 v3 v4, v = .agg (recV x v1 v2 v3 v4).toArray ∧ fs = clF v1 v2 x.2.2.2.1.2.2.2.2 ++ clF v3 v4 x.2.2.2.2.2.1.2.2.1
abbrev rdM (rb : Nat) (a : Option Addr) (n c : Nat) : Nat × Obj := (rb, row 139 [.slice a n c])
abbrev inO (rb : Nat) : Obj := row 113 [.pointer (some ⟨rb, 0, none⟩)]
/-- It reads so, whatever the reader holds. -/
abbrev Rds {α : Type} (F : FuncId) (args : Array Value) (o : List Int → Option (α × List Int)) (V : α → Value → List Fact → Prop) (rb ib : Nat) (u0 : Value) (l0 : List Int) : Prop :=
  ∀ (w : World) (a : Option Addr) (n c : Nat) (l : List Int), w.heap[rb]? = some (row 139 [.slice a n c]) → Fx [factB u0 l0, factO ib (inO rb)] w rb → (∀ W, SlB W u0 l0 → SlB W (.slice a n c) l) → Byt l → n ≤ c → l.length ≤ 1099511627776 →
    Calls Tryz.prog F args w (InP 139 157 w rb u0 l0 (o l) V)
theorem prY {α β : Type} {a : Cdc α} {b : Cdc β} {l r r' : List Int} {x : α} {y : β} (h1 : a.rn l = some (x, r)) (h2 : b.rn r = some (y, r')) : (pr a b).rn l = some ((x, y), r') := by
  show (match a.rn l with | none => none | some (x, r) => _) = _
  rw [h1]
  show (match b.rn r with | none => none | some (y, r') => _) = _
  rw [h2]
theorem prN1 {α β : Type} {a : Cdc α} {b : Cdc β} {l : List Int} (h1 : a.rn l = none) : (pr a b).rn l = none := by
  show (match a.rn l with | none => none | some (x, r) => _) = _
  rw [h1]
theorem prN2 {α β : Type} {a : Cdc α} {b : Cdc β} {l r : List Int} {x : α} (h1 : a.rn l = some (x, r)) (h2 : b.rn r = none) : (pr a b).rn l = none := by
  show (match a.rn l with | none => none | some (x, r) => _) = _
  rw [h1]
  show (match b.rn r with | none => none | some (y, r') => _) = _
  rw [h2]
theorem rd_l32 (l : List Int) : dg (rd l).1 = dg (l32 (ofL (rd l).1)) := by rw [l32_ofL (rd_size l)]
theorem sz25i : (Tryz.prog.info? 25).map (·.size) = some 32 := by kernel_rfl
theorem sz110i : (Tryz.prog.info? 110).map (·.size) = some 1 := by kernel_rfl
theorem tx94i : Txt Tryz.prog 94 := txt_of Tryz.func94 rfl (by kernel_rfl)
theorem tx95i : Txt Tryz.prog 95 := txt_of Tryz.func95 rfl (by kernel_rfl)
theorem tx96i : Txt Tryz.prog 96 := txt_of Tryz.func96 rfl (by kernel_rfl)
theorem tx97i : Txt Tryz.prog 97 := txt_of Tryz.func97 rfl (by kernel_rfl)
theorem tx98i : Txt Tryz.prog 98 := txt_of Tryz.func98 rfl (by kernel_rfl)
theorem tx99i : Txt Tryz.prog 99 := txt_of Tryz.func99 rfl (by kernel_rfl)
theorem z25i : (Tryz.prog.info? 25).bind (·.zero) = some (.agg (dg zd).toArray) := by kernel_rfl

theorem okI_yes (x : Int) (k : Int) (w : World) (h : k = 0) :
    Calls Tryz.prog 94 #[vi x, vi k] w fun e w' => e = .returned (vi x) ∧ Fr [] w w' := by
  refine calls_of (args := [vi x, vi k]) ([]) ([]) ([]) Tryz.func94 rfl rfl (okW0 _ _ _ _) ?_
  refine J_seq ?_
  refine J_region ?_
  refine L_v rfl rfl rfl (V_assign rfl rfl) ?_
  refine L_nil ?_
  change J _ _ _ _
  refine J_seq ?_
  refine J_seq ?_
  refine J_region ?_
  refine L_v rfl rfl rfl (V_move rfl rfl) ?_
  refine L_v rfl rfl rfl (V_neq rfl rfl rfl (decide_eq_false (fun hn => hn h))) ?_
  refine L_nil ?_
  change J _ _ _ _
  refine J_false rfl ?_
  refine J_skip ?_
  change J _ _ _ _
  refine J_seq ?_
  refine J_region ?_
  refine L_v rfl rfl rfl (V_move rfl rfl) ?_
  refine L_v rfl rfl rfl (V_assign rfl rfl) ?_
  refine L_nil ?_
  change J _ _ _ _
  refine J_ret ?_
  change Kret _ _ _ Exit.ret _
  refine ret1 rfl rfl (RV_t rfl) ?_
  exact fun w' h => ⟨rfl, h.fr⟩

theorem okI_no (x : Int) (k : Int) (w : World) (h : k ≠ 0) :
    Calls Tryz.prog 94 #[vi x, vi k] w fun e w' => e = .panicked [stp 157 60] ∧ Fr [] w w' := by
  refine calls_of_p (args := [vi x, vi k]) ([]) ([]) ([]) Tryz.func94 rfl rfl (okW0 _ _ _ _) ?_
  refine J_seq ?_
  refine J_region ?_
  refine L_v rfl rfl rfl (V_assign rfl rfl) ?_
  refine L_nil ?_
  change J _ _ _ _
  refine J_seq ?_
  refine J_seq ?_
  refine J_region ?_
  refine L_v rfl rfl rfl (V_move rfl rfl) ?_
  refine L_v rfl rfl rfl (V_neq rfl rfl rfl (decide_eq_true h)) ?_
  refine L_nil ?_
  change J _ _ _ _
  refine J_true rfl ?_
  refine J_regionP ?_
  refine LP_one ?_
  refine L_v rfl rfl rfl (V_build (vs := [(0, .int .i64 60)]) rfl rfl (bdStop 60)) ?_
  refine L_nil ?_
  refine LP_one ?_
  refine L_v rfl rfl rfl (V_makeIface rfl rfl Tryz.underlying157 rfl) ?_
  refine L_nil ?_
  refine LP_panic rfl rfl rfl ?_
  change KretP _ _ _ (Exit.panic _) _
  refine KretP_panic rfl ?_
  exact fun w' h => ⟨rfl, h.fr⟩

theorem okS_yes (x : ByteArray) (k : Int) (w : World) (h : k = 0) :
    Calls Tryz.prog 96 #[.string x, vi k] w fun e w' => e = .returned (.string x) ∧ Fr [] w w' := by
  refine calls_of (args := [.string x, vi k]) ([]) ([]) ([]) Tryz.func96 rfl rfl (okW0 _ _ _ _) ?_
  refine J_seq ?_
  refine J_region ?_
  refine L_v rfl rfl rfl (V_assign rfl rfl) ?_
  refine L_nil ?_
  change J _ _ _ _
  refine J_seq ?_
  refine J_seq ?_
  refine J_region ?_
  refine L_v rfl rfl rfl (V_move rfl rfl) ?_
  refine L_v rfl rfl rfl (V_neq rfl rfl rfl (decide_eq_false (fun hn => hn h))) ?_
  refine L_nil ?_
  change J _ _ _ _
  refine J_false rfl ?_
  refine J_skip ?_
  change J _ _ _ _
  refine J_seq ?_
  refine J_region ?_
  refine L_v rfl rfl rfl (V_move rfl rfl) ?_
  refine L_v rfl rfl rfl (V_assign rfl rfl) ?_
  refine L_nil ?_
  change J _ _ _ _
  refine J_ret ?_
  change Kret _ _ _ Exit.ret _
  refine ret1 rfl rfl (RV_t rfl) ?_
  exact fun w' h => ⟨rfl, h.fr⟩

theorem okS_no (x : ByteArray) (k : Int) (w : World) (h : k ≠ 0) :
    Calls Tryz.prog 96 #[.string x, vi k] w fun e w' => e = .panicked [stp 157 60] ∧ Fr [] w w' := by
  refine calls_of_p (args := [.string x, vi k]) ([]) ([]) ([]) Tryz.func96 rfl rfl (okW0 _ _ _ _) ?_
  refine J_seq ?_
  refine J_region ?_
  refine L_v rfl rfl rfl (V_assign rfl rfl) ?_
  refine L_nil ?_
  change J _ _ _ _
  refine J_seq ?_
  refine J_seq ?_
  refine J_region ?_
  refine L_v rfl rfl rfl (V_move rfl rfl) ?_
  refine L_v rfl rfl rfl (V_neq rfl rfl rfl (decide_eq_true h)) ?_
  refine L_nil ?_
  change J _ _ _ _
  refine J_true rfl ?_
  refine J_regionP ?_
  refine LP_one ?_
  refine L_v rfl rfl rfl (V_build (vs := [(0, .int .i64 60)]) rfl rfl (bdStop 60)) ?_
  refine L_nil ?_
  refine LP_one ?_
  refine L_v rfl rfl rfl (V_makeIface rfl rfl Tryz.underlying157 rfl) ?_
  refine L_nil ?_
  refine LP_panic rfl rfl rfl ?_
  change KretP _ _ _ (Exit.panic _) _
  refine KretP_panic rfl ?_
  exact fun w' h => ⟨rfl, h.fr⟩

theorem okD_yes (x : List Int) (k : Int) (w : World) (h : k = 0) (hd : x.length = 32) :
    Calls Tryz.prog 98 #[.agg (dg x).toArray, vi k] w fun e w' => e = .returned (.agg (dg x).toArray) ∧ Fr [] w w' := by
  refine calls_of (args := [.agg (dg x).toArray, vi k]) ([]) ([]) ([]) Tryz.func98 rfl rfl (okW0 _ _ _ _) ?_
  refine J_seq ?_
  refine J_region ?_
  refine L_box rfl rfl rfl rfl rfl (fun b0 => ?_)
  refine L_alloc rfl rfl rfl rfl z25i (fun b1 => ?_)
  refine L_nil ?_
  change J _ _ _ _
  refine J_seq ?_
  refine J_seq ?_
  refine J_region ?_
  refine L_v rfl rfl rfl (V_move rfl rfl) ?_
  refine L_v rfl rfl rfl (V_neq rfl rfl rfl (decide_eq_false (fun hn => hn h))) ?_
  refine L_nil ?_
  change J _ _ _ _
  refine J_false rfl ?_
  refine J_skip ?_
  change J _ _ _ _
  refine J_seq ?_
  refine J_region ?_
  refine L_v rfl rfl rfl (V_loadW 0 rfl rfl rfl Tryz.underlying25 rfl (szd sz25i (by rw [dg_length, hd]))) ?_
  refine L_storeW 1 rfl rfl rfl rfl rfl rfl (szd sz25i (by rw [dg_length, hd])) (dg_one _) (by rw [dg_length, dg_length, hd]; rfl) ?_
  refine L_nil ?_
  change J _ _ _ _
  refine J_ret ?_
  change Kret _ _ _ Exit.ret _
  refine ret1 rfl rfl (RV_c 1 rfl rfl Tryz.underlying25 rfl (szd sz25i (by first | rfl | (rw [dg_length]; exact rd_size _) | (simp [dg_length, zd_length, *]; done)))) ?_
  exact fun w' h => ⟨rfl, h.fr⟩

theorem okD_no (x : List Int) (k : Int) (w : World) (h : k ≠ 0) :
    Calls Tryz.prog 98 #[.agg (dg x).toArray, vi k] w fun e w' => e = .panicked [stp 157 60] ∧ Fr [] w w' := by
  refine calls_of_p (args := [.agg (dg x).toArray, vi k]) ([]) ([]) ([]) Tryz.func98 rfl rfl (okW0 _ _ _ _) ?_
  refine J_seq ?_
  refine J_region ?_
  refine L_box rfl rfl rfl rfl rfl (fun b0 => ?_)
  refine L_alloc rfl rfl rfl rfl z25i (fun b1 => ?_)
  refine L_nil ?_
  change J _ _ _ _
  refine J_seq ?_
  refine J_seq ?_
  refine J_region ?_
  refine L_v rfl rfl rfl (V_move rfl rfl) ?_
  refine L_v rfl rfl rfl (V_neq rfl rfl rfl (decide_eq_true h)) ?_
  refine L_nil ?_
  change J _ _ _ _
  refine J_true rfl ?_
  refine J_regionP ?_
  refine LP_one ?_
  refine L_v rfl rfl rfl (V_build (vs := [(0, .int .i64 60)]) rfl rfl (bdStop 60)) ?_
  refine L_nil ?_
  refine LP_one ?_
  refine L_v rfl rfl rfl (V_makeIface rfl rfl Tryz.underlying157 rfl) ?_
  refine L_nil ?_
  refine LP_panic rfl rfl rfl ?_
  change KretP _ _ _ (Exit.panic _) _
  refine KretP_panic rfl ?_
  exact fun w' h => ⟨rfl, h.fr⟩

theorem in_n (rb ib : Nat) (u0 : Value) (l0 : List Int) (w : World) (a : Option Addr) (n c : Nat) (l : List Int) (hb : w.heap[rb]? = some (row 139 [.slice a n c])) (hfs : Fx [factB u0 l0, factO ib (inO rb)] w rb) (hD : ∀ W, SlB W u0 l0 → SlB W (.slice a n c) l) (hby : Byt l) (hcn : n ≤ c) (hl : l.length ≤ 1099511627776) :
    Calls Tryz.prog 61 #[.pointer (some ⟨ib, 0, none⟩)] w fun e w' => InP 139 157 w rb u0 l0 (rnC l) (Vi) e w' := by
  refine calls_of_p (args := [.pointer (some ⟨ib, 0, none⟩)]) ([rb]) ([rdM rb a n c]) ([factB u0 l0, factO ib (inO rb)]) Tryz.func61 rfl rfl (okM1 hb hfs) ?_
  by_cases h0 : (rc l).2.2 = 0
  ·
    refine J_seq ?_
    refine J_region ?_
    refine L_v rfl rfl rfl (V_assign rfl rfl) ?_
    refine L_nil ?_
    change J _ _ _ _
    refine J_seq ?_
    refine J_regionP ?_
    refine LP_one ?_
    refine L_v rfl rfl rfl (V_move rfl rfl) ?_
    refine L_nil ?_
    refine LP_one ?_
    refine L_v rfl rfl rfl (V_nilCheck rfl rfl) ?_
    refine L_nil ?_
    refine LP_one ?_
    refine L_v rfl rfl rfl (V_fieldAddr rfl rfl Tryz.underlying113 rfl sz110i rfl) ?_
    refine L_nil ?_
    refine LP_one ?_
    refine L_v rfl rfl rfl (V_load rfl rfl Tryz.underlying110 rfl (fun w hw => cell_of (hw.facts _ (List.mem_cons_of_mem _ (List.mem_cons_self ..))).1 rfl)) ?_
    refine L_nil ?_
    refine LP_one ?_
    refine L_call rfl rfl rfl rfl tx95i (fun w1 hw => (rcount_w rb a n c l w1 (hw.at (i := 0) rfl) (hD w1 (fB hw 0 rfl)) hby hcn (by have := (hD w1 (fB hw 0 rfl)).size; omega)).mono ?_)
    rintro e w' ⟨a1, n1, c1, rfl, hfr1, hb1, hc1, hs1⟩
    refine ⟨_, _, _, rfl, hw.set (i := 0) rfl hfr1 hb1, rfl, ?_⟩
    refine L_nil ?_
    refine LP_one ?_
    refine L_v rfl rfl rfl (V_extract rfl rfl rfl) ?_
    refine L_nil ?_
    refine LP_one ?_
    refine L_v rfl rfl rfl (V_extract rfl rfl rfl) ?_
    refine L_nil ?_
    refine LP_call (first := #[]) (cap := #[]) rfl rfl rfl rfl tx94i (fun w1 hw => (okI_yes _ _ w1 h0).mono ?_)
    rintro e w' ⟨rfl, hfr2⟩
    refine .inl ⟨_, _, _, rfl, hw.fr0 hfr2, rfl, ?_⟩
    refine LP_one ?_
    refine L_v rfl rfl rfl (V_assign rfl rfl) ?_
    refine L_nil ?_
    refine LP_nil ?_
    change J _ _ _ _
    refine J_ret ?_
    change KretP _ _ _ Exit.ret _
    refine KretP_plain ?_
    refine ret1 rfl rfl (RV_t rfl) ?_
    exact fun w' h => InP.yes (show rnC l = _ from if_pos h0) h.fr ⟨rfl, rfl⟩ (by simp) (h.at (i := 0) rfl) hc1 (fun W hW => hs1 W (hD W hW))
  ·
    refine J_seq ?_
    refine J_region ?_
    refine L_v rfl rfl rfl (V_assign rfl rfl) ?_
    refine L_nil ?_
    change J _ _ _ _
    refine J_seq ?_
    refine J_regionP ?_
    refine LP_one ?_
    refine L_v rfl rfl rfl (V_move rfl rfl) ?_
    refine L_nil ?_
    refine LP_one ?_
    refine L_v rfl rfl rfl (V_nilCheck rfl rfl) ?_
    refine L_nil ?_
    refine LP_one ?_
    refine L_v rfl rfl rfl (V_fieldAddr rfl rfl Tryz.underlying113 rfl sz110i rfl) ?_
    refine L_nil ?_
    refine LP_one ?_
    refine L_v rfl rfl rfl (V_load rfl rfl Tryz.underlying110 rfl (fun w hw => cell_of (hw.facts _ (List.mem_cons_of_mem _ (List.mem_cons_self ..))).1 rfl)) ?_
    refine L_nil ?_
    refine LP_one ?_
    refine L_call rfl rfl rfl rfl tx95i (fun w1 hw => (rcount_w rb a n c l w1 (hw.at (i := 0) rfl) (hD w1 (fB hw 0 rfl)) hby hcn (by have := (hD w1 (fB hw 0 rfl)).size; omega)).mono ?_)
    rintro e w' ⟨a1, n1, c1, rfl, hfr1, hb1, hc1, hs1⟩
    refine ⟨_, _, _, rfl, hw.set (i := 0) rfl hfr1 hb1, rfl, ?_⟩
    refine L_nil ?_
    refine LP_one ?_
    refine L_v rfl rfl rfl (V_extract rfl rfl rfl) ?_
    refine L_nil ?_
    refine LP_one ?_
    refine L_v rfl rfl rfl (V_extract rfl rfl rfl) ?_
    refine L_nil ?_
    refine LP_call (first := #[]) (cap := #[]) rfl rfl rfl rfl tx94i (fun w1 hw => (okI_no _ _ w1 h0).mono ?_)
    rintro e w' ⟨rfl, hfr2⟩
    exact .inr ⟨_, _, _, rfl, hw.fr0 hfr2, KretP_panic rfl (fun w' h => InP.no (if_neg h0) h.fr)⟩

theorem in_s (rb ib : Nat) (u0 : Value) (l0 : List Int) (w : World) (a : Option Addr) (n c : Nat) (l : List Int) (hb : w.heap[rb]? = some (row 139 [.slice a n c])) (hfs : Fx [factB u0 l0, factO ib (inO rb)] w rb) (hD : ∀ W, SlB W u0 l0 → SlB W (.slice a n c) l) (hby : Byt l) (hcn : n ≤ c) (hl : l.length ≤ 1099511627776) :
    Calls Tryz.prog 62 #[.pointer (some ⟨ib, 0, none⟩)] w fun e w' => InP 139 157 w rb u0 l0 (rnS l) (Vs) e w' := by
  refine calls_of_p (args := [.pointer (some ⟨ib, 0, none⟩)]) ([rb]) ([rdM rb a n c]) ([factB u0 l0, factO ib (inO rb)]) Tryz.func62 rfl rfl (okM1 hb hfs) ?_
  by_cases h0 : (_root_.Go.Proofs.YtfgcfjojpakpjaaGreat.rb l).2.2 = 0
  ·
    refine J_seq ?_
    refine J_region ?_
    refine L_v rfl rfl rfl (V_assign rfl rfl) ?_
    refine L_nil ?_
    change J _ _ _ _
    refine J_seq ?_
    refine J_regionP ?_
    refine LP_one ?_
    refine L_v rfl rfl rfl (V_move rfl rfl) ?_
    refine L_nil ?_
    refine LP_one ?_
    refine L_v rfl rfl rfl (V_nilCheck rfl rfl) ?_
    refine L_nil ?_
    refine LP_one ?_
    refine L_v rfl rfl rfl (V_fieldAddr rfl rfl Tryz.underlying113 rfl sz110i rfl) ?_
    refine L_nil ?_
    refine LP_one ?_
    refine L_v rfl rfl rfl (V_load rfl rfl Tryz.underlying110 rfl (fun w hw => cell_of (hw.facts _ (List.mem_cons_of_mem _ (List.mem_cons_self ..))).1 rfl)) ?_
    refine L_nil ?_
    refine LP_one ?_
    refine L_call rfl rfl rfl rfl tx97i (fun w1 hw => (rbytes_w rb a n c l w1 (hw.at (i := 0) rfl) (hD w1 (fB hw 0 rfl)) hby hcn (by have := (hD w1 (fB hw 0 rfl)).size; omega)).mono ?_)
    rintro e w' ⟨a1, n1, c1, rfl, hfr1, hb1, hc1, hs1⟩
    refine ⟨_, _, _, rfl, hw.set (i := 0) rfl hfr1 hb1, rfl, ?_⟩
    refine L_nil ?_
    refine LP_one ?_
    refine L_v rfl rfl rfl (V_extract rfl rfl rfl) ?_
    refine L_nil ?_
    refine LP_one ?_
    refine L_v rfl rfl rfl (V_extract rfl rfl rfl) ?_
    refine L_nil ?_
    refine LP_call (first := #[]) (cap := #[]) rfl rfl rfl rfl tx96i (fun w1 hw => (okS_yes _ _ w1 h0).mono ?_)
    rintro e w' ⟨rfl, hfr2⟩
    refine .inl ⟨_, _, _, rfl, hw.fr0 hfr2, rfl, ?_⟩
    refine LP_one ?_
    refine L_v rfl rfl rfl (V_assign rfl rfl) ?_
    refine L_nil ?_
    refine LP_nil ?_
    change J _ _ _ _
    refine J_ret ?_
    change KretP _ _ _ Exit.ret _
    refine KretP_plain ?_
    refine ret1 rfl rfl (RV_t rfl) ?_
    exact fun w' h => InP.yes (show rnS l = _ from if_pos h0) h.fr ⟨rfl, rfl⟩ (by simp) (h.at (i := 0) rfl) hc1 (fun W hW => hs1 W (hD W hW))
  ·
    refine J_seq ?_
    refine J_region ?_
    refine L_v rfl rfl rfl (V_assign rfl rfl) ?_
    refine L_nil ?_
    change J _ _ _ _
    refine J_seq ?_
    refine J_regionP ?_
    refine LP_one ?_
    refine L_v rfl rfl rfl (V_move rfl rfl) ?_
    refine L_nil ?_
    refine LP_one ?_
    refine L_v rfl rfl rfl (V_nilCheck rfl rfl) ?_
    refine L_nil ?_
    refine LP_one ?_
    refine L_v rfl rfl rfl (V_fieldAddr rfl rfl Tryz.underlying113 rfl sz110i rfl) ?_
    refine L_nil ?_
    refine LP_one ?_
    refine L_v rfl rfl rfl (V_load rfl rfl Tryz.underlying110 rfl (fun w hw => cell_of (hw.facts _ (List.mem_cons_of_mem _ (List.mem_cons_self ..))).1 rfl)) ?_
    refine L_nil ?_
    refine LP_one ?_
    refine L_call rfl rfl rfl rfl tx97i (fun w1 hw => (rbytes_w rb a n c l w1 (hw.at (i := 0) rfl) (hD w1 (fB hw 0 rfl)) hby hcn (by have := (hD w1 (fB hw 0 rfl)).size; omega)).mono ?_)
    rintro e w' ⟨a1, n1, c1, rfl, hfr1, hb1, hc1, hs1⟩
    refine ⟨_, _, _, rfl, hw.set (i := 0) rfl hfr1 hb1, rfl, ?_⟩
    refine L_nil ?_
    refine LP_one ?_
    refine L_v rfl rfl rfl (V_extract rfl rfl rfl) ?_
    refine L_nil ?_
    refine LP_one ?_
    refine L_v rfl rfl rfl (V_extract rfl rfl rfl) ?_
    refine L_nil ?_
    refine LP_call (first := #[]) (cap := #[]) rfl rfl rfl rfl tx96i (fun w1 hw => (okS_no _ _ w1 h0).mono ?_)
    rintro e w' ⟨rfl, hfr2⟩
    exact .inr ⟨_, _, _, rfl, hw.fr0 hfr2, KretP_panic rfl (fun w' h => InP.no (if_neg h0) h.fr)⟩

theorem in_d (rb ib : Nat) (u0 : Value) (l0 : List Int) (w : World) (a : Option Addr) (n c : Nat) (l : List Int) (hb : w.heap[rb]? = some (row 139 [.slice a n c])) (hfs : Fx [factB u0 l0, factO ib (inO rb)] w rb) (hD : ∀ W, SlB W u0 l0 → SlB W (.slice a n c) l) (hby : Byt l) (hcn : n ≤ c) (hl : l.length ≤ 1099511627776) :
    Calls Tryz.prog 63 #[.pointer (some ⟨ib, 0, none⟩)] w fun e w' => InP 139 157 w rb u0 l0 (rnD l) (Vd) e w' := by
  refine calls_of_p (args := [.pointer (some ⟨ib, 0, none⟩)]) ([rb]) ([rdM rb a n c]) ([factB u0 l0, factO ib (inO rb)]) Tryz.func63 rfl rfl (okM1 hb hfs) ?_
  by_cases h0 : (rd l).2.2 = 0
  ·
    refine J_seq ?_
    refine J_region ?_
    refine L_alloc rfl rfl rfl rfl z25i (fun b1 => ?_)
    refine L_nil ?_
    change J _ _ _ _
    refine J_seq ?_
    refine J_regionP ?_
    refine LP_one ?_
    refine L_v rfl rfl rfl (V_move rfl rfl) ?_
    refine L_nil ?_
    refine LP_one ?_
    refine L_v rfl rfl rfl (V_nilCheck rfl rfl) ?_
    refine L_nil ?_
    refine LP_one ?_
    refine L_v rfl rfl rfl (V_fieldAddr rfl rfl Tryz.underlying113 rfl sz110i rfl) ?_
    refine L_nil ?_
    refine LP_one ?_
    refine L_v rfl rfl rfl (V_load rfl rfl Tryz.underlying110 rfl (fun w hw => cell_of (hw.facts _ (List.mem_cons_of_mem _ (List.mem_cons_self ..))).1 rfl)) ?_
    refine L_nil ?_
    refine LP_one ?_
    refine L_call rfl rfl rfl rfl tx99i (fun w1 hw => (rdigest_w rb a n c l w1 (hw.at (i := 0) rfl) (hD w1 (fB hw 0 rfl)) hby hcn (by have := (hD w1 (fB hw 0 rfl)).size; omega)).mono ?_)
    rintro e w' ⟨a1, n1, c1, rfl, hfr1, hb1, hc1, hs1⟩
    refine ⟨_, _, _, rfl, hw.set (i := 0) rfl hfr1 hb1, rfl, ?_⟩
    refine L_nil ?_
    refine LP_one ?_
    refine L_v rfl rfl rfl (V_extract rfl rfl rfl) ?_
    refine L_nil ?_
    refine LP_one ?_
    refine L_v rfl rfl rfl (V_extract rfl rfl rfl) ?_
    refine L_nil ?_
    refine LP_call (first := #[]) (cap := #[]) rfl rfl rfl rfl tx98i (fun w1 hw => (okD_yes _ _ w1 h0 (rd_size _)).mono ?_)
    rintro e w' ⟨rfl, hfr2⟩
    refine .inl ⟨_, _, _, rfl, hw.fr0 hfr2, rfl, ?_⟩
    refine LP_one ?_
    refine L_storeW 1 rfl rfl rfl rfl rfl rfl (szd sz25i (by rw [dg_length]; exact rd_size l)) (dg_one _) (by rw [dg_length, dg_length]; exact (rd_size l).symm) ?_
    refine L_nil ?_
    refine LP_nil ?_
    change J _ _ _ _
    refine J_ret ?_
    change KretP _ _ _ Exit.ret _
    refine KretP_plain ?_
    refine ret1 rfl rfl (RV_c 1 rfl rfl Tryz.underlying25 rfl (szd sz25i (by first | rfl | (rw [dg_length]; exact rd_size _) | (simp [dg_length, zd_length, *]; done)))) ?_
    exact fun w' h => InP.yes (show rnD l = _ from if_pos h0) h.fr ⟨by rw [rd_l32], rfl⟩ (by simp) (h.at (i := 0) rfl) hc1 (fun W hW => hs1 W (hD W hW))
  ·
    refine J_seq ?_
    refine J_region ?_
    refine L_alloc rfl rfl rfl rfl z25i (fun b1 => ?_)
    refine L_nil ?_
    change J _ _ _ _
    refine J_seq ?_
    refine J_regionP ?_
    refine LP_one ?_
    refine L_v rfl rfl rfl (V_move rfl rfl) ?_
    refine L_nil ?_
    refine LP_one ?_
    refine L_v rfl rfl rfl (V_nilCheck rfl rfl) ?_
    refine L_nil ?_
    refine LP_one ?_
    refine L_v rfl rfl rfl (V_fieldAddr rfl rfl Tryz.underlying113 rfl sz110i rfl) ?_
    refine L_nil ?_
    refine LP_one ?_
    refine L_v rfl rfl rfl (V_load rfl rfl Tryz.underlying110 rfl (fun w hw => cell_of (hw.facts _ (List.mem_cons_of_mem _ (List.mem_cons_self ..))).1 rfl)) ?_
    refine L_nil ?_
    refine LP_one ?_
    refine L_call rfl rfl rfl rfl tx99i (fun w1 hw => (rdigest_w rb a n c l w1 (hw.at (i := 0) rfl) (hD w1 (fB hw 0 rfl)) hby hcn (by have := (hD w1 (fB hw 0 rfl)).size; omega)).mono ?_)
    rintro e w' ⟨a1, n1, c1, rfl, hfr1, hb1, hc1, hs1⟩
    refine ⟨_, _, _, rfl, hw.set (i := 0) rfl hfr1 hb1, rfl, ?_⟩
    refine L_nil ?_
    refine LP_one ?_
    refine L_v rfl rfl rfl (V_extract rfl rfl rfl) ?_
    refine L_nil ?_
    refine LP_one ?_
    refine L_v rfl rfl rfl (V_extract rfl rfl rfl) ?_
    refine L_nil ?_
    refine LP_call (first := #[]) (cap := #[]) rfl rfl rfl rfl tx98i (fun w1 hw => (okD_no _ _ w1 h0).mono ?_)
    rintro e w' ⟨rfl, hfr2⟩
    exact .inr ⟨_, _, _, rfl, hw.fr0 hfr2, KretP_panic rfl (fun w' h => InP.no (if_neg h0) h.fr)⟩

end Go.Proofs.YtfgcfjojpakpjaaGreat
