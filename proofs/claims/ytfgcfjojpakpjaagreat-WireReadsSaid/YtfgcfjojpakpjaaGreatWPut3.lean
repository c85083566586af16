/- What layer 8 lays: messages, each by its parts. -/
import Derived.Test.YtfgcfjojpakpjaaGreatWPut2
set_option linter.unusedVariables false
set_option linter.unusedSimpArgs false
set_option maxRecDepth 100000
namespace Go.Proofs.YtfgcfjojpakpjaaGreat
open Go.Sx
def clF (v1 v2 : Value) (x : Cl) : List Fact := [factC 1 v1 x.1.length (ints x.1), factC 1 v2 x.2.length (ints x.2)]
abbrev Fx (fs : List Fact) (w : World) (b : Nat) : Prop := ∀ f ∈ fs, f.p w ∧ ∀ k, f.fp k → k < w.heap.size ∧ k ≠ b
theorem factsOwn {cx : Cx} {m : Mem} {fs : List Fact} {w : World} {i b g : Nat} {p q : Obj} (h : OkW cx m fs w) (hi : m[i]? = some (g, p)) (h0 : m[0]? = some (b, q)) (hne : i ≠ 0) : (factO g p).p w ∧ ∀ k, (factO g p).fp k → k < w.heap.size ∧ k ≠ b :=
  ⟨h.at hi, fun k hk => by
    obtain rfl : k = g := hk
    refine ⟨h.lt (List.mem_map.2 ⟨_, List.mem_of_getElem? hi, rfl⟩), fun e => ?_⟩
    subst e
    exact hne (key_unique' h.dis hi h0)⟩
theorem map_getD {α : Type} {l : List α} {i : Nat} (f : α → List Tok) (d : α) (h : i < l.length) : (l.map f).getD i [] = f (l.getD i d) := by
  rw [List.getD_eq_getElem?_getD, List.getElem?_map, List.getElem?_eq_getElem h, List.getD_eq_getElem?_getD, List.getElem?_eq_getElem h]
  rfl
theorem map_getV {α : Type} {l : List α} {i : Nat} (f : α → List Value) (d : α) (h : i < l.length) : (l.map f).getD i [] = f (l.getD i d) := by
  rw [List.getD_eq_getElem?_getD, List.getElem?_map, List.getElem?_eq_getElem h, List.getD_eq_getElem?_getD, List.getElem?_eq_getElem h]
  rfl
theorem fm_len {α : Type} (f : α → List Tok) (l : List α) : (l.map f).flatten.length = (l.flatMap f).length := rfl
theorem vr1 (x : Vr) : (vrC.tk x).length = 3 := rfl
theorem hd1 (x : Hd) : (hdC.tk x).length = 3 := rfl
theorem se1 (x : Se) : (seC.tk x).length = 4 := rfl
theorem sg1 (x : Sg) : (sgC.tk x).length = 4 := rfl
theorem cmd1 (x : Cmd) : (cmdC.tk x).length = 7 := rfl
theorem cI_len (l : List Int) : (l.flatMap cC.tk).length = l.length := by
  induction l with
  | nil => rfl
  | cons x l ih => rw [List.flatMap_cons, List.length_append, ih, List.length_cons, show (cC.tk x).length = 1 from rfl]; omega
theorem lsI_len (l : List Int) : ((ls cC).tk l).length = 1 + l.length := by
  show (_ :: l.flatMap cC.tk).length = _
  rw [List.length_cons, cI_len, Nat.add_comm]
theorem vrT_len (l : List Vr) : (l.flatMap vrC.tk).length = 3 * l.length := by
  induction l with
  | nil => rfl
  | cons x l ih => rw [List.flatMap_cons, List.length_append, ih, List.length_cons, show (vrC.tk x).length = 3 from rfl]; omega
theorem hdT_len (l : List Hd) : (l.flatMap hdC.tk).length = 3 * l.length := by
  induction l with
  | nil => rfl
  | cons x l ih => rw [List.flatMap_cons, List.length_append, ih, List.length_cons, show (hdC.tk x).length = 3 from rfl]; omega
theorem seT_len (l : List Se) : (l.flatMap seC.tk).length = 4 * l.length := by
  induction l with
  | nil => rfl
  | cons x l ih => rw [List.flatMap_cons, List.length_append, ih, List.length_cons, show (seC.tk x).length = 4 from rfl]; omega
theorem lsV_len (l : List Vr) : ((ls vrC).tk l).length = 1 + 3 * l.length := by
  show (_ :: l.flatMap vrC.tk).length = _
  rw [List.length_cons, vrT_len, Nat.add_comm]
theorem lsH_len (l : List Hd) : ((ls hdC).tk l).length = 1 + 3 * l.length := by
  show (_ :: l.flatMap hdC.tk).length = _
  rw [List.length_cons, hdT_len, Nat.add_comm]
theorem lsS_len (l : List Se) : ((ls seC).tk l).length = 1 + 4 * l.length := by
  show (_ :: l.flatMap seC.tk).length = _
  rw [List.length_cons, seT_len, Nat.add_comm]
theorem usT1_len (x : Us) : (usC.tk x).length = 2 + 3 * x.2.length := by
  show ([Tok.s x.1] ++ (.ln x.2.length :: x.2.flatMap vrC.tk)).length = _
  simp only [List.length_append, List.length_cons, List.length_nil, vrT_len]
  omega
theorem enT_len (x : En) : (enC.tk x).length = 12 + x.2.2.2.2.1.length + x.2.2.2.2.2.length := by
  show ([Tok.c x.1] ++ ([Tok.c x.2.1] ++ ([Tok.c x.2.2.1] ++ (cmdC.tk x.2.2.2.1 ++ clC.tk x.2.2.2.2)))).length = _
  simp only [List.length_append, List.length_singleton, clT_len, show (cmdC.tk x.2.2.2.1).length = 7 from rfl]
  omega
theorem recT_len (x : Rec) : (recC.tk x).length = 25 + x.2.2.2.1.2.2.2.2.1.length + x.2.2.2.1.2.2.2.2.2.length + x.2.2.2.2.2.1.2.2.1.1.length + x.2.2.2.2.2.1.2.2.1.2.length := by
  show ([Tok.c x.1] ++ ([Tok.c x.2.1] ++ ([Tok.c x.2.2.1] ++ (enC.tk x.2.2.2.1 ++ ([Tok.c x.2.2.2.2.1] ++ (([Tok.c x.2.2.2.2.2.1.1] ++ ([Tok.c x.2.2.2.2.2.1.2.1] ++ (clC.tk x.2.2.2.2.2.1.2.2.1 ++ [Tok.s x.2.2.2.2.2.1.2.2.2]))) ++ sgC.tk x.2.2.2.2.2.2)))))).length = _
  simp only [List.length_append, List.length_singleton, clT_len, enT_len, show (sgC.tk x.2.2.2.2.2.2).length = 4 from rfl]
  omega
theorem sz3y : (Tryz.prog.info? 3).map (·.size) = some 1 := by kernel_rfl
theorem sz9y : (Tryz.prog.info? 9).map (·.size) = some 1 := by kernel_rfl
theorem sz23y : (Tryz.prog.info? 23).map (·.size) = some 1 := by kernel_rfl
theorem sz25y : (Tryz.prog.info? 25).map (·.size) = some 32 := by kernel_rfl
theorem sz27y : (Tryz.prog.info? 27).map (·.size) = some 38 := by kernel_rfl
theorem sz28y : (Tryz.prog.info? 28).map (·.size) = some 1 := by kernel_rfl
theorem sz33y : (Tryz.prog.info? 33).map (·.size) = some 1 := by kernel_rfl
theorem sz34y : (Tryz.prog.info? 34).map (·.size) = some 1 := by kernel_rfl
theorem sz36y : (Tryz.prog.info? 36).map (·.size) = some 2 := by kernel_rfl
theorem sz38y : (Tryz.prog.info? 38).map (·.size) = some 43 := by kernel_rfl
theorem sz43y : (Tryz.prog.info? 43).map (·.size) = some 1 := by kernel_rfl
theorem sz45y : (Tryz.prog.info? 45).map (·.size) = some 5 := by kernel_rfl
theorem sz47y : (Tryz.prog.info? 47).map (·.size) = some 65 := by kernel_rfl
theorem sz49y : (Tryz.prog.info? 49).map (·.size) = some 97 := by kernel_rfl
theorem sz59y : (Tryz.prog.info? 59).map (·.size) = some 1 := by kernel_rfl
theorem sz60y : (Tryz.prog.info? 60).map (·.size) = some 1 := by kernel_rfl
theorem sz61y : (Tryz.prog.info? 61).map (·.size) = some 1 := by kernel_rfl
theorem sz101y : (Tryz.prog.info? 101).map (·.size) = some 1 := by kernel_rfl
theorem sz107y : (Tryz.prog.info? 107).map (·.size) = some 1 := by kernel_rfl
theorem tx34y : Txt Tryz.prog 34 := txt_of Tryz.func34 rfl (by kernel_rfl)
theorem tx39y : Txt Tryz.prog 39 := txt_of Tryz.func39 rfl (by kernel_rfl)
theorem tx51y : Txt Tryz.prog 51 := txt_of Tryz.func51 rfl (by kernel_rfl)
theorem tx68y : Txt Tryz.prog 68 := txt_of Tryz.func68 rfl (by kernel_rfl)
theorem tx69y : Txt Tryz.prog 69 := txt_of Tryz.func69 rfl (by kernel_rfl)
theorem tx70y : Txt Tryz.prog 70 := txt_of Tryz.func70 rfl (by kernel_rfl)
theorem tx74y : Txt Tryz.prog 74 := txt_of Tryz.func74 rfl (by kernel_rfl)
theorem tx80y : Txt Tryz.prog 80 := txt_of Tryz.func80 rfl (by kernel_rfl)
theorem tx89y : Txt Tryz.prog 89 := txt_of Tryz.func89 rfl (by kernel_rfl)
theorem tx90y : Txt Tryz.prog 90 := txt_of Tryz.func90 rfl (by kernel_rfl)
theorem tx91y : Txt Tryz.prog 91 := txt_of Tryz.func91 rfl (by kernel_rfl)
theorem tx92y : Txt Tryz.prog 92 := txt_of Tryz.func92 rfl (by kernel_rfl)
theorem tx93y : Txt Tryz.prog 93 := txt_of Tryz.func93 rfl (by kernel_rfl)
theorem tx109y : Txt Tryz.prog 109 := txt_of Tryz.func109 rfl (by kernel_rfl)
theorem tx110y : Txt Tryz.prog 110 := txt_of Tryz.func110 rfl (by kernel_rfl)
theorem tx111y : Txt Tryz.prog 111 := txt_of Tryz.func111 rfl (by kernel_rfl)
theorem tx114y : Txt Tryz.prog 114 := txt_of Tryz.func114 rfl (by kernel_rfl)
theorem tx115y : Txt Tryz.prog 115 := txt_of Tryz.func115 rfl (by kernel_rfl)

theorem over_w (b : Nat) (a : Option Addr) (n c : Nat) (L : List Int) (x : Vr) (w : World) (hb : w.heap[b]? = some (row 79 [.slice a n c])) (hu : SlR w (.slice a n c) L) (hcn : n ≤ c) (hsz : L.length + 65545 * (3) ≤ 1099511627776) :
    Calls Tryz.prog 115 #[.pointer (some ⟨b, 0, none⟩), .agg (vrV x).toArray] w fun e w' => OutP 79 157 w b (.slice a n c) L (encTs (vrC.tk x)) e w' := by
  have hul := hu.size
  refine calls_of_p (args := [.pointer (some ⟨b, 0, none⟩), .agg (vrV x).toArray]) ([b]) ([(b, row 79 [.slice a n c])]) (factR (.slice a n c) L :: []) Tryz.func115 rfl rfl (ok_bl hb hu (by intro f hf; simp at hf)) ?_
  refine J_seq ?_
  refine J_region ?_
  refine L_box rfl rfl rfl rfl rfl (fun b1 => ?_)
  refine L_nil ?_
  change J _ _ _ _
  refine J_seq ?_
  refine J_regionP ?_
  refine LP_one ?_
  refine L_v rfl rfl rfl (V_move rfl rfl) ?_
  refine L_nil ?_
  refine LP_one ?_
  refine L_v rfl rfl rfl (V_fieldAddr rfl rfl Tryz.underlying109 rfl sz3y rfl) ?_
  refine L_nil ?_
  refine LP_one ?_
  refine L_v rfl rfl rfl (V_load1 1 rfl rfl rfl Tryz.underlying3 rfl (by first | rfl | exact dg_get (by omega) (by omega))) ?_
  refine L_nil ?_
  refine LP_one ?_
  refine L_v rfl rfl rfl (V_fieldAddr rfl rfl Tryz.underlying109 rfl sz107y rfl) ?_
  refine L_nil ?_
  refine LP_one ?_
  refine L_v rfl rfl rfl (V_load1 1 rfl rfl rfl Tryz.underlying107 rfl (by first | rfl | exact dg_get (by omega) (by omega))) ?_
  refine L_nil ?_
  refine LP_one ?_
  refine L_buildSlice (vs := [(0, vi (x.1)), (1, vi (x.2.1))]) (l := ints [x.1, x.2.1]) rfl rfl rfl rfl rfl (bsI2 _ _) (fun b2 => ?_)
  refine L_nil ?_
  refine LP_out 0 rfl rfl rfl rfl rfl rfl tx68y rfl rfl (fun w1 hw => on_w b a n c L (some ⟨b2, 0, none⟩) 2 2 [x.1, x.2.1] w1 (hw.at (i := 0) rfl) (fR hw 0 rfl) hcn (SlC.of_own hw (i := 2) (ks := ints [x.1, x.2.1]) (r := []) rfl rfl 2) (by (try simp only [List.length_append, toksI_len, clT_len, enT_len, recT_len, usT1_len, vrT_len, hdT_len, seT_len, cI_len, lsI_len, lsV_len, lsH_len, lsS_len, vr1, hd1, se1, sg1, cmd1, fm_len, List.length_cons, List.length_nil, List.length_singleton]); omega)) (fun k hk => KretP_panic rfl (fun w' h => OutP.err (show encTs (toksI [x.1, x.2.1] ++ ([.s (x.2.2)])) = _ from encE1 hk) h.fr)) (fun M1 a1 n1 c1 hM1 hc1 hN1 => ?_)
  have hl1 := encTs_len hM1
  try simp only [List.length_append, toksI_len, clT_len, enT_len, recT_len, usT1_len, vrT_len, hdT_len, seT_len, cI_len, lsI_len, lsV_len, lsH_len, lsS_len, vr1, hd1, se1, sg1, cmd1, fm_len, List.length_cons, List.length_nil, List.length_singleton] at hl1
  refine LP_nil ?_
  change J _ _ _ _
  refine J_regionP ?_
  refine LP_one ?_
  refine L_v rfl rfl rfl (V_move rfl rfl) ?_
  refine L_nil ?_
  refine LP_one ?_
  refine L_v rfl rfl rfl (V_fieldAddr rfl rfl Tryz.underlying109 rfl sz9y rfl) ?_
  refine L_nil ?_
  refine LP_one ?_
  refine L_v rfl rfl rfl (V_load1 1 rfl rfl rfl Tryz.underlying9 rfl (by first | rfl | exact dg_get (by omega) (by omega))) ?_
  refine L_nil ?_
  refine LP_out 0 rfl rfl rfl rfl rfl rfl tx69y rfl rfl (fun w1 hw => os_w b a1 n1 c1 (L ++ M1) x.2.2 w1 (hw.at (i := 0) rfl) (fR hw 0 rfl) hc1 (by (try simp only [List.length_append, toksI_len, clT_len, enT_len, recT_len, usT1_len, vrT_len, hdT_len, seT_len, cI_len, lsI_len, lsV_len, lsH_len, lsS_len, vr1, hd1, se1, sg1, cmd1, fm_len, List.length_cons, List.length_nil, List.length_singleton]); omega)) (fun k hk => KretP_panic rfl (fun w' h => OutP.err (show encTs (toksI [x.1, x.2.1] ++ ([.s (x.2.2)])) = _ from encE2 hM1 (hk)) h.fr)) (fun M2 a2 n2 c2 hM2 hc2 hN2 => ?_)
  have hl2 := encTs_len hM2
  try simp only [List.length_append, toksI_len, clT_len, enT_len, recT_len, usT1_len, vrT_len, hdT_len, seT_len, cI_len, lsI_len, lsV_len, lsH_len, lsS_len, vr1, hd1, se1, sg1, cmd1, fm_len, List.length_cons, List.length_nil, List.length_singleton] at hl2
  refine LP_nil ?_
  change KretP _ _ _ Exit.normal _
  refine KretP_normal ?_
  refine KretP_plain ?_
  refine ret0 rfl rfl  ?_
  exact fun w' h => OutP.ok (show encTs (toksI [x.1, x.2.1] ++ ([.s (x.2.2)])) = _ from enc2 hM1 (hM2)) h.fr (h.at (i := 0) rfl) (by simp only [List.append_assoc]) (fR h 0 rfl) hc2 (hN2 _ _ (hN1 _ _ (Nw.refl _ _ _)))

theorem oses_w (b : Nat) (a : Option Addr) (n c : Nat) (L : List Int) (x : Se) (w : World) (hb : w.heap[b]? = some (row 79 [.slice a n c])) (hu : SlR w (.slice a n c) L) (hcn : n ≤ c) (hsz : L.length + 65545 * (4) ≤ 1099511627776) :
    Calls Tryz.prog 93 #[.pointer (some ⟨b, 0, none⟩), .agg (seV x).toArray] w fun e w' => OutP 79 157 w b (.slice a n c) L (encTs (seC.tk x)) e w' := by
  have hul := hu.size
  refine calls_of_p (args := [.pointer (some ⟨b, 0, none⟩), .agg (seV x).toArray]) ([b]) ([(b, row 79 [.slice a n c])]) (factR (.slice a n c) L :: []) Tryz.func93 rfl rfl (ok_bl hb hu (by intro f hf; simp at hf)) ?_
  refine J_seq ?_
  refine J_region ?_
  refine L_box rfl rfl rfl rfl rfl (fun b1 => ?_)
  refine L_nil ?_
  change J _ _ _ _
  refine J_regionP ?_
  refine LP_one ?_
  refine L_v rfl rfl rfl (V_move rfl rfl) ?_
  refine L_nil ?_
  refine LP_one ?_
  refine L_v rfl rfl rfl (V_fieldAddr rfl rfl Tryz.underlying106 rfl sz3y rfl) ?_
  refine L_nil ?_
  refine LP_one ?_
  refine L_v rfl rfl rfl (V_load1 1 rfl rfl rfl Tryz.underlying3 rfl (by first | rfl | exact dg_get (by omega) (by omega))) ?_
  refine L_nil ?_
  refine LP_one ?_
  refine L_v rfl rfl rfl (V_fieldAddr rfl rfl Tryz.underlying106 rfl sz3y rfl) ?_
  refine L_nil ?_
  refine LP_one ?_
  refine L_v rfl rfl rfl (V_load1 1 rfl rfl rfl Tryz.underlying3 rfl (by first | rfl | exact dg_get (by omega) (by omega))) ?_
  refine L_nil ?_
  refine LP_one ?_
  refine L_v rfl rfl rfl (V_fieldAddr rfl rfl Tryz.underlying106 rfl sz28y rfl) ?_
  refine L_nil ?_
  refine LP_one ?_
  refine L_v rfl rfl rfl (V_load1 1 rfl rfl rfl Tryz.underlying28 rfl (by first | rfl | exact dg_get (by omega) (by omega))) ?_
  refine L_nil ?_
  refine LP_one ?_
  refine L_v rfl rfl rfl (V_fieldAddr rfl rfl Tryz.underlying106 rfl sz3y rfl) ?_
  refine L_nil ?_
  refine LP_one ?_
  refine L_v rfl rfl rfl (V_load1 1 rfl rfl rfl Tryz.underlying3 rfl (by first | rfl | exact dg_get (by omega) (by omega))) ?_
  refine L_nil ?_
  refine LP_one ?_
  refine L_buildSlice (vs := [(0, vi (x.1)), (1, vi (x.2.1)), (2, vi (x.2.2.1)), (3, vi (x.2.2.2))]) (l := ints [x.1, x.2.1, x.2.2.1, x.2.2.2]) rfl rfl rfl rfl rfl (bsI4 _ _ _ _) (fun b2 => ?_)
  refine L_nil ?_
  refine LP_out 0 rfl rfl rfl rfl rfl rfl tx68y rfl rfl (fun w1 hw => on_w b a n c L (some ⟨b2, 0, none⟩) 4 4 [x.1, x.2.1, x.2.2.1, x.2.2.2] w1 (hw.at (i := 0) rfl) (fR hw 0 rfl) hcn (SlC.of_own hw (i := 2) (ks := ints [x.1, x.2.1, x.2.2.1, x.2.2.2]) (r := []) rfl rfl 4) (by (try simp only [List.length_append, toksI_len, clT_len, enT_len, recT_len, usT1_len, vrT_len, hdT_len, seT_len, cI_len, lsI_len, lsV_len, lsH_len, lsS_len, vr1, hd1, se1, sg1, cmd1, fm_len, List.length_cons, List.length_nil, List.length_singleton]); omega)) (fun k hk => KretP_panic rfl (fun w' h => OutP.err (show encTs (toksI [x.1, x.2.1, x.2.2.1, x.2.2.2]) = _ from hk) h.fr)) (fun M1 a1 n1 c1 hM1 hc1 hN1 => ?_)
  have hl1 := encTs_len hM1
  try simp only [List.length_append, toksI_len, clT_len, enT_len, recT_len, usT1_len, vrT_len, hdT_len, seT_len, cI_len, lsI_len, lsV_len, lsH_len, lsS_len, vr1, hd1, se1, sg1, cmd1, fm_len, List.length_cons, List.length_nil, List.length_singleton] at hl1
  refine LP_nil ?_
  change KretP _ _ _ Exit.normal _
  refine KretP_normal ?_
  refine KretP_plain ?_
  refine ret0 rfl rfl  ?_
  exact fun w' h => OutP.ok (show encTs (toksI [x.1, x.2.1, x.2.2.1, x.2.2.2]) = _ from hM1) h.fr (h.at (i := 0) rfl) (by simp only [List.append_assoc]) (fR h 0 rfl) hc1 (hN1 _ _ (Nw.refl _ _ _))

theorem ohead_w (b : Nat) (a : Option Addr) (n c : Nat) (L : List Int) (x : Hd) (w : World) (hb : w.heap[b]? = some (row 79 [.slice a n c])) (hu : SlR w (.slice a n c) L) (hcn : n ≤ c) (hsz : L.length + 65545 * (3) ≤ 1099511627776) :
    Calls Tryz.prog 80 #[.pointer (some ⟨b, 0, none⟩), .agg (hdV x).toArray] w fun e w' => OutP 79 157 w b (.slice a n c) L (encTs (hdC.tk x)) e w' := by
  have hul := hu.size
  refine calls_of_p (args := [.pointer (some ⟨b, 0, none⟩), .agg (hdV x).toArray]) ([b]) ([(b, row 79 [.slice a n c])]) (factR (.slice a n c) L :: []) Tryz.func80 rfl rfl (ok_bl hb hu (by intro f hf; simp at hf)) ?_
  refine J_seq ?_
  refine J_region ?_
  refine L_box rfl rfl rfl rfl rfl (fun b1 => ?_)
  refine L_nil ?_
  change J _ _ _ _
  refine J_seq ?_
  refine J_regionP ?_
  refine LP_one ?_
  refine L_v rfl rfl rfl (V_move rfl rfl) ?_
  refine L_nil ?_
  refine LP_one ?_
  refine L_v rfl rfl rfl (V_fieldAddr rfl rfl Tryz.underlying47 rfl sz3y rfl) ?_
  refine L_nil ?_
  refine LP_one ?_
  refine L_v rfl rfl rfl (V_load1 1 rfl rfl rfl Tryz.underlying3 rfl (by first | rfl | exact dg_get (by omega) (by omega))) ?_
  refine L_nil ?_
  refine LP_one ?_
  refine L_buildSlice (vs := [(0, vi (x.1))]) (l := ints [x.1]) rfl rfl rfl rfl rfl (bsI1 _) (fun b2 => ?_)
  refine L_nil ?_
  refine LP_out 0 rfl rfl rfl rfl rfl rfl tx68y rfl rfl (fun w1 hw => on_w b a n c L (some ⟨b2, 0, none⟩) 1 1 [x.1] w1 (hw.at (i := 0) rfl) (fR hw 0 rfl) hcn (SlC.of_own hw (i := 2) (ks := ints [x.1]) (r := []) rfl rfl 1) (by (try simp only [List.length_append, toksI_len, clT_len, enT_len, recT_len, usT1_len, vrT_len, hdT_len, seT_len, cI_len, lsI_len, lsV_len, lsH_len, lsS_len, vr1, hd1, se1, sg1, cmd1, fm_len, List.length_cons, List.length_nil, List.length_singleton]); omega)) (fun k hk => KretP_panic rfl (fun w' h => OutP.err (show encTs (toksI [x.1] ++ ([.d (x.2.1)] ++ ([.d (x.2.2)]))) = _ from encE1 hk) h.fr)) (fun M1 a1 n1 c1 hM1 hc1 hN1 => ?_)
  have hl1 := encTs_len hM1
  try simp only [List.length_append, toksI_len, clT_len, enT_len, recT_len, usT1_len, vrT_len, hdT_len, seT_len, cI_len, lsI_len, lsV_len, lsH_len, lsS_len, vr1, hd1, se1, sg1, cmd1, fm_len, List.length_cons, List.length_nil, List.length_singleton] at hl1
  refine LP_nil ?_
  change J _ _ _ _
  refine J_seq ?_
  refine J_regionP ?_
  refine LP_one ?_
  refine L_v rfl rfl rfl (V_move rfl rfl) ?_
  refine L_nil ?_
  refine LP_one ?_
  refine L_v rfl rfl rfl (V_fieldAddr rfl rfl Tryz.underlying47 rfl sz25y rfl) ?_
  refine L_nil ?_
  refine LP_one ?_
  refine L_v rfl rfl rfl (V_loadT 1 (vs := dg (l32 x.2.1)) rfl rfl rfl Tryz.underlying25 rfl sz25y rfl rfl) ?_
  refine L_nil ?_
  refine LP_out 0 rfl rfl rfl rfl rfl rfl tx70y rfl rfl (fun w1 hw => od_w b a1 n1 c1 (L ++ M1) x.2.1 w1 (hw.at (i := 0) rfl) (fR hw 0 rfl) hc1 (by (try simp only [List.length_append, toksI_len, clT_len, enT_len, recT_len, usT1_len, vrT_len, hdT_len, seT_len, cI_len, lsI_len, lsV_len, lsH_len, lsS_len, vr1, hd1, se1, sg1, cmd1, fm_len, List.length_cons, List.length_nil, List.length_singleton]); omega)) (fun k hk => KretP_panic rfl (fun w' h => OutP.err (show encTs (toksI [x.1] ++ ([.d (x.2.1)] ++ ([.d (x.2.2)]))) = _ from encE2 hM1 (encE1 hk)) h.fr)) (fun M2 a2 n2 c2 hM2 hc2 hN2 => ?_)
  have hl2 := encTs_len hM2
  try simp only [List.length_append, toksI_len, clT_len, enT_len, recT_len, usT1_len, vrT_len, hdT_len, seT_len, cI_len, lsI_len, lsV_len, lsH_len, lsS_len, vr1, hd1, se1, sg1, cmd1, fm_len, List.length_cons, List.length_nil, List.length_singleton] at hl2
  refine LP_nil ?_
  change J _ _ _ _
  refine J_regionP ?_
  refine LP_one ?_
  refine L_v rfl rfl rfl (V_move rfl rfl) ?_
  refine L_nil ?_
  refine LP_one ?_
  refine L_v rfl rfl rfl (V_fieldAddr rfl rfl Tryz.underlying47 rfl sz25y rfl) ?_
  refine L_nil ?_
  refine LP_one ?_
  refine L_v rfl rfl rfl (V_loadT 1 (vs := dg (l32 x.2.2)) rfl rfl rfl Tryz.underlying25 rfl sz25y rfl rfl) ?_
  refine L_nil ?_
  refine LP_out 0 rfl rfl rfl rfl rfl rfl tx70y rfl rfl (fun w1 hw => od_w b a2 n2 c2 ((L ++ M1) ++ M2) x.2.2 w1 (hw.at (i := 0) rfl) (fR hw 0 rfl) hc2 (by (try simp only [List.length_append, toksI_len, clT_len, enT_len, recT_len, usT1_len, vrT_len, hdT_len, seT_len, cI_len, lsI_len, lsV_len, lsH_len, lsS_len, vr1, hd1, se1, sg1, cmd1, fm_len, List.length_cons, List.length_nil, List.length_singleton]); omega)) (fun k hk => KretP_panic rfl (fun w' h => OutP.err (show encTs (toksI [x.1] ++ ([.d (x.2.1)] ++ ([.d (x.2.2)]))) = _ from encE2 hM1 (encE2 hM2 (hk))) h.fr)) (fun M3 a3 n3 c3 hM3 hc3 hN3 => ?_)
  have hl3 := encTs_len hM3
  try simp only [List.length_append, toksI_len, clT_len, enT_len, recT_len, usT1_len, vrT_len, hdT_len, seT_len, cI_len, lsI_len, lsV_len, lsH_len, lsS_len, vr1, hd1, se1, sg1, cmd1, fm_len, List.length_cons, List.length_nil, List.length_singleton] at hl3
  refine LP_nil ?_
  change KretP _ _ _ Exit.normal _
  refine KretP_normal ?_
  refine KretP_plain ?_
  refine ret0 rfl rfl  ?_
  exact fun w' h => OutP.ok (show encTs (toksI [x.1] ++ ([.d (x.2.1)] ++ ([.d (x.2.2)]))) = _ from enc2 hM1 (enc2 hM2 (hM3))) h.fr (h.at (i := 0) rfl) (by simp only [List.append_assoc]) (fR h 0 rfl) hc3 (hN3 _ _ (hN2 _ _ (hN1 _ _ (Nw.refl _ _ _))))

theorem osig_w (b : Nat) (a : Option Addr) (n c : Nat) (L : List Int) (x : Sg) (w : World) (hb : w.heap[b]? = some (row 79 [.slice a n c])) (hu : SlR w (.slice a n c) L) (hcn : n ≤ c) (hsz : L.length + 65545 * (4) ≤ 1099511627776) :
    Calls Tryz.prog 51 #[.pointer (some ⟨b, 0, none⟩), .agg (sgV x).toArray] w fun e w' => OutP 79 157 w b (.slice a n c) L (encTs (sgC.tk x)) e w' := by
  have hul := hu.size
  refine calls_of_p (args := [.pointer (some ⟨b, 0, none⟩), .agg (sgV x).toArray]) ([b]) ([(b, row 79 [.slice a n c])]) (factR (.slice a n c) L :: []) Tryz.func51 rfl rfl (ok_bl hb hu (by intro f hf; simp at hf)) ?_
  refine J_seq ?_
  refine J_region ?_
  refine L_box rfl rfl rfl rfl rfl (fun b1 => ?_)
  refine L_nil ?_
  change J _ _ _ _
  refine J_seq ?_
  refine J_regionP ?_
  refine LP_one ?_
  refine L_v rfl rfl rfl (V_move rfl rfl) ?_
  refine L_nil ?_
  refine LP_one ?_
  refine L_v rfl rfl rfl (V_fieldAddr rfl rfl Tryz.underlying49 rfl sz47y rfl) ?_
  refine L_nil ?_
  refine LP_one ?_
  refine L_v rfl rfl rfl (V_loadT 1 (vs := hdV x.1) rfl rfl rfl Tryz.underlying47 rfl sz47y rfl rfl) ?_
  refine L_nil ?_
  refine LP_out 0 rfl rfl rfl rfl rfl rfl tx80y rfl rfl (fun w1 hw => ohead_w b a n c L x.1 w1 (hw.at (i := 0) rfl) (fR hw 0 rfl) hcn (by (try simp only [List.length_append, toksI_len, clT_len, enT_len, recT_len, usT1_len, vrT_len, hdT_len, seT_len, cI_len, lsI_len, lsV_len, lsH_len, lsS_len, vr1, hd1, se1, sg1, cmd1, fm_len, List.length_cons, List.length_nil, List.length_singleton]); omega)) (fun k hk => KretP_panic rfl (fun w' h => OutP.err (show encTs (hdC.tk x.1 ++ ([.d (x.2)])) = _ from encE1 hk) h.fr)) (fun M1 a1 n1 c1 hM1 hc1 hN1 => ?_)
  have hl1 := encTs_len hM1
  try simp only [List.length_append, toksI_len, clT_len, enT_len, recT_len, usT1_len, vrT_len, hdT_len, seT_len, cI_len, lsI_len, lsV_len, lsH_len, lsS_len, vr1, hd1, se1, sg1, cmd1, fm_len, List.length_cons, List.length_nil, List.length_singleton] at hl1
  refine LP_nil ?_
  change J _ _ _ _
  refine J_regionP ?_
  refine LP_one ?_
  refine L_v rfl rfl rfl (V_move rfl rfl) ?_
  refine L_nil ?_
  refine LP_one ?_
  refine L_v rfl rfl rfl (V_fieldAddr rfl rfl Tryz.underlying49 rfl sz25y rfl) ?_
  refine L_nil ?_
  refine LP_one ?_
  refine L_v rfl rfl rfl (V_loadT 1 (vs := dg (l32 x.2)) rfl rfl rfl Tryz.underlying25 rfl sz25y rfl rfl) ?_
  refine L_nil ?_
  refine LP_out 0 rfl rfl rfl rfl rfl rfl tx70y rfl rfl (fun w1 hw => od_w b a1 n1 c1 (L ++ M1) x.2 w1 (hw.at (i := 0) rfl) (fR hw 0 rfl) hc1 (by (try simp only [List.length_append, toksI_len, clT_len, enT_len, recT_len, usT1_len, vrT_len, hdT_len, seT_len, cI_len, lsI_len, lsV_len, lsH_len, lsS_len, vr1, hd1, se1, sg1, cmd1, fm_len, List.length_cons, List.length_nil, List.length_singleton]); omega)) (fun k hk => KretP_panic rfl (fun w' h => OutP.err (show encTs (hdC.tk x.1 ++ ([.d (x.2)])) = _ from encE2 hM1 (hk)) h.fr)) (fun M2 a2 n2 c2 hM2 hc2 hN2 => ?_)
  have hl2 := encTs_len hM2
  try simp only [List.length_append, toksI_len, clT_len, enT_len, recT_len, usT1_len, vrT_len, hdT_len, seT_len, cI_len, lsI_len, lsV_len, lsH_len, lsS_len, vr1, hd1, se1, sg1, cmd1, fm_len, List.length_cons, List.length_nil, List.length_singleton] at hl2
  refine LP_nil ?_
  change KretP _ _ _ Exit.normal _
  refine KretP_normal ?_
  refine KretP_plain ?_
  refine ret0 rfl rfl  ?_
  exact fun w' h => OutP.ok (show encTs (hdC.tk x.1 ++ ([.d (x.2)])) = _ from enc2 hM1 (hM2)) h.fr (h.at (i := 0) rfl) (by simp only [List.append_assoc]) (fR h 0 rfl) hc2 (hN2 _ _ (hN1 _ _ (Nw.refl _ _ _)))

theorem ocmd_w (b : Nat) (a : Option Addr) (n c : Nat) (L : List Int) (x : Cmd) (w : World) (hb : w.heap[b]? = some (row 79 [.slice a n c])) (hu : SlR w (.slice a n c) L) (hcn : n ≤ c) (hsz : L.length + 65545 * (7) ≤ 1099511627776) :
    Calls Tryz.prog 34 #[.pointer (some ⟨b, 0, none⟩), .agg (cmdV x).toArray] w fun e w' => OutP 79 157 w b (.slice a n c) L (encTs (cmdC.tk x)) e w' := by
  have hul := hu.size
  refine calls_of_p (args := [.pointer (some ⟨b, 0, none⟩), .agg (cmdV x).toArray]) ([b]) ([(b, row 79 [.slice a n c])]) (factR (.slice a n c) L :: []) Tryz.func34 rfl rfl (ok_bl hb hu (by intro f hf; simp at hf)) ?_
  refine J_seq ?_
  refine J_region ?_
  refine L_box rfl rfl rfl rfl rfl (fun b1 => ?_)
  refine L_nil ?_
  change J _ _ _ _
  refine J_seq ?_
  refine J_regionP ?_
  refine LP_one ?_
  refine L_v rfl rfl rfl (V_move rfl rfl) ?_
  refine L_nil ?_
  refine LP_one ?_
  refine L_v rfl rfl rfl (V_fieldAddr rfl rfl Tryz.underlying27 rfl sz23y rfl) ?_
  refine L_nil ?_
  refine LP_one ?_
  refine L_v rfl rfl rfl (V_load1 1 rfl rfl rfl Tryz.underlying23 rfl (by first | rfl | exact dg_get (by omega) (by omega))) ?_
  refine L_nil ?_
  refine LP_one ?_
  refine L_v rfl rfl rfl (V_fieldAddr rfl rfl Tryz.underlying27 rfl sz3y rfl) ?_
  refine L_nil ?_
  refine LP_one ?_
  refine L_v rfl rfl rfl (V_load1 1 rfl rfl rfl Tryz.underlying3 rfl (by first | rfl | exact dg_get (by omega) (by omega))) ?_
  refine L_nil ?_
  refine LP_one ?_
  refine L_v rfl rfl rfl (V_fieldAddr rfl rfl Tryz.underlying27 rfl sz3y rfl) ?_
  refine L_nil ?_
  refine LP_one ?_
  refine L_v rfl rfl rfl (V_load1 1 rfl rfl rfl Tryz.underlying3 rfl (by first | rfl | exact dg_get (by omega) (by omega))) ?_
  refine L_nil ?_
  refine LP_one ?_
  refine L_buildSlice (vs := [(0, vi (x.1)), (1, vi (x.2.1)), (2, vi (x.2.2.1))]) (l := ints [x.1, x.2.1, x.2.2.1]) rfl rfl rfl rfl rfl (bsI3 _ _ _) (fun b2 => ?_)
  refine L_nil ?_
  refine LP_out 0 rfl rfl rfl rfl rfl rfl tx68y rfl rfl (fun w1 hw => on_w b a n c L (some ⟨b2, 0, none⟩) 3 3 [x.1, x.2.1, x.2.2.1] w1 (hw.at (i := 0) rfl) (fR hw 0 rfl) hcn (SlC.of_own hw (i := 2) (ks := ints [x.1, x.2.1, x.2.2.1]) (r := []) rfl rfl 3) (by (try simp only [List.length_append, toksI_len, clT_len, enT_len, recT_len, usT1_len, vrT_len, hdT_len, seT_len, cI_len, lsI_len, lsV_len, lsH_len, lsS_len, vr1, hd1, se1, sg1, cmd1, fm_len, List.length_cons, List.length_nil, List.length_singleton]); omega)) (fun k hk => KretP_panic rfl (fun w' h => OutP.err (show encTs (toksI [x.1, x.2.1, x.2.2.1] ++ ([.s (x.2.2.2.1)] ++ ([.s (x.2.2.2.2.1)] ++ (toksI [x.2.2.2.2.2.1] ++ ([.d (x.2.2.2.2.2.2)]))))) = _ from encE1 hk) h.fr)) (fun M1 a1 n1 c1 hM1 hc1 hN1 => ?_)
  have hl1 := encTs_len hM1
  try simp only [List.length_append, toksI_len, clT_len, enT_len, recT_len, usT1_len, vrT_len, hdT_len, seT_len, cI_len, lsI_len, lsV_len, lsH_len, lsS_len, vr1, hd1, se1, sg1, cmd1, fm_len, List.length_cons, List.length_nil, List.length_singleton] at hl1
  refine LP_nil ?_
  change J _ _ _ _
  refine J_seq ?_
  refine J_regionP ?_
  refine LP_one ?_
  refine L_v rfl rfl rfl (V_move rfl rfl) ?_
  refine L_nil ?_
  refine LP_one ?_
  refine L_v rfl rfl rfl (V_fieldAddr rfl rfl Tryz.underlying27 rfl sz9y rfl) ?_
  refine L_nil ?_
  refine LP_one ?_
  refine L_v rfl rfl rfl (V_load1 1 rfl rfl rfl Tryz.underlying9 rfl (by first | rfl | exact dg_get (by omega) (by omega))) ?_
  refine L_nil ?_
  refine LP_out 0 rfl rfl rfl rfl rfl rfl tx69y rfl rfl (fun w1 hw => os_w b a1 n1 c1 (L ++ M1) x.2.2.2.1 w1 (hw.at (i := 0) rfl) (fR hw 0 rfl) hc1 (by (try simp only [List.length_append, toksI_len, clT_len, enT_len, recT_len, usT1_len, vrT_len, hdT_len, seT_len, cI_len, lsI_len, lsV_len, lsH_len, lsS_len, vr1, hd1, se1, sg1, cmd1, fm_len, List.length_cons, List.length_nil, List.length_singleton]); omega)) (fun k hk => KretP_panic rfl (fun w' h => OutP.err (show encTs (toksI [x.1, x.2.1, x.2.2.1] ++ ([.s (x.2.2.2.1)] ++ ([.s (x.2.2.2.2.1)] ++ (toksI [x.2.2.2.2.2.1] ++ ([.d (x.2.2.2.2.2.2)]))))) = _ from encE2 hM1 (encE1 hk)) h.fr)) (fun M2 a2 n2 c2 hM2 hc2 hN2 => ?_)
  have hl2 := encTs_len hM2
  try simp only [List.length_append, toksI_len, clT_len, enT_len, recT_len, usT1_len, vrT_len, hdT_len, seT_len, cI_len, lsI_len, lsV_len, lsH_len, lsS_len, vr1, hd1, se1, sg1, cmd1, fm_len, List.length_cons, List.length_nil, List.length_singleton] at hl2
  refine LP_nil ?_
  change J _ _ _ _
  refine J_seq ?_
  refine J_regionP ?_
  refine LP_one ?_
  refine L_v rfl rfl rfl (V_move rfl rfl) ?_
  refine L_nil ?_
  refine LP_one ?_
  refine L_v rfl rfl rfl (V_fieldAddr rfl rfl Tryz.underlying27 rfl sz9y rfl) ?_
  refine L_nil ?_
  refine LP_one ?_
  refine L_v rfl rfl rfl (V_load1 1 rfl rfl rfl Tryz.underlying9 rfl (by first | rfl | exact dg_get (by omega) (by omega))) ?_
  refine L_nil ?_
  refine LP_out 0 rfl rfl rfl rfl rfl rfl tx69y rfl rfl (fun w1 hw => os_w b a2 n2 c2 ((L ++ M1) ++ M2) x.2.2.2.2.1 w1 (hw.at (i := 0) rfl) (fR hw 0 rfl) hc2 (by (try simp only [List.length_append, toksI_len, clT_len, enT_len, recT_len, usT1_len, vrT_len, hdT_len, seT_len, cI_len, lsI_len, lsV_len, lsH_len, lsS_len, vr1, hd1, se1, sg1, cmd1, fm_len, List.length_cons, List.length_nil, List.length_singleton]); omega)) (fun k hk => KretP_panic rfl (fun w' h => OutP.err (show encTs (toksI [x.1, x.2.1, x.2.2.1] ++ ([.s (x.2.2.2.1)] ++ ([.s (x.2.2.2.2.1)] ++ (toksI [x.2.2.2.2.2.1] ++ ([.d (x.2.2.2.2.2.2)]))))) = _ from encE2 hM1 (encE2 hM2 (encE1 hk))) h.fr)) (fun M3 a3 n3 c3 hM3 hc3 hN3 => ?_)
  have hl3 := encTs_len hM3
  try simp only [List.length_append, toksI_len, clT_len, enT_len, recT_len, usT1_len, vrT_len, hdT_len, seT_len, cI_len, lsI_len, lsV_len, lsH_len, lsS_len, vr1, hd1, se1, sg1, cmd1, fm_len, List.length_cons, List.length_nil, List.length_singleton] at hl3
  refine LP_nil ?_
  change J _ _ _ _
  refine J_seq ?_
  refine J_regionP ?_
  refine LP_one ?_
  refine L_v rfl rfl rfl (V_move rfl rfl) ?_
  refine L_nil ?_
  refine LP_one ?_
  refine L_v rfl rfl rfl (V_fieldAddr rfl rfl Tryz.underlying27 rfl sz3y rfl) ?_
  refine L_nil ?_
  refine LP_one ?_
  refine L_v rfl rfl rfl (V_load1 1 rfl rfl rfl Tryz.underlying3 rfl (by first | rfl | exact dg_get (by omega) (by omega))) ?_
  refine L_nil ?_
  refine LP_one ?_
  refine L_buildSlice (vs := [(0, vi (x.2.2.2.2.2.1))]) (l := ints [x.2.2.2.2.2.1]) rfl rfl rfl rfl rfl (bsI1 _) (fun b3 => ?_)
  refine L_nil ?_
  refine LP_out 0 rfl rfl rfl rfl rfl rfl tx68y rfl rfl (fun w1 hw => on_w b a3 n3 c3 (((L ++ M1) ++ M2) ++ M3) (some ⟨b3, 0, none⟩) 1 1 [x.2.2.2.2.2.1] w1 (hw.at (i := 0) rfl) (fR hw 0 rfl) hc3 (SlC.of_own hw (i := 3) (ks := ints [x.2.2.2.2.2.1]) (r := []) rfl rfl 1) (by (try simp only [List.length_append, toksI_len, clT_len, enT_len, recT_len, usT1_len, vrT_len, hdT_len, seT_len, cI_len, lsI_len, lsV_len, lsH_len, lsS_len, vr1, hd1, se1, sg1, cmd1, fm_len, List.length_cons, List.length_nil, List.length_singleton]); omega)) (fun k hk => KretP_panic rfl (fun w' h => OutP.err (show encTs (toksI [x.1, x.2.1, x.2.2.1] ++ ([.s (x.2.2.2.1)] ++ ([.s (x.2.2.2.2.1)] ++ (toksI [x.2.2.2.2.2.1] ++ ([.d (x.2.2.2.2.2.2)]))))) = _ from encE2 hM1 (encE2 hM2 (encE2 hM3 (encE1 hk)))) h.fr)) (fun M4 a4 n4 c4 hM4 hc4 hN4 => ?_)
  have hl4 := encTs_len hM4
  try simp only [List.length_append, toksI_len, clT_len, enT_len, recT_len, usT1_len, vrT_len, hdT_len, seT_len, cI_len, lsI_len, lsV_len, lsH_len, lsS_len, vr1, hd1, se1, sg1, cmd1, fm_len, List.length_cons, List.length_nil, List.length_singleton] at hl4
  refine LP_nil ?_
  change J _ _ _ _
  refine J_regionP ?_
  refine LP_one ?_
  refine L_v rfl rfl rfl (V_move rfl rfl) ?_
  refine L_nil ?_
  refine LP_one ?_
  refine L_v rfl rfl rfl (V_fieldAddr rfl rfl Tryz.underlying27 rfl sz25y rfl) ?_
  refine L_nil ?_
  refine LP_one ?_
  refine L_v rfl rfl rfl (V_loadT 1 (vs := dg (l32 x.2.2.2.2.2.2)) rfl rfl rfl Tryz.underlying25 rfl sz25y rfl rfl) ?_
  refine L_nil ?_
  refine LP_out 0 rfl rfl rfl rfl rfl rfl tx70y rfl rfl (fun w1 hw => od_w b a4 n4 c4 ((((L ++ M1) ++ M2) ++ M3) ++ M4) x.2.2.2.2.2.2 w1 (hw.at (i := 0) rfl) (fR hw 0 rfl) hc4 (by (try simp only [List.length_append, toksI_len, clT_len, enT_len, recT_len, usT1_len, vrT_len, hdT_len, seT_len, cI_len, lsI_len, lsV_len, lsH_len, lsS_len, vr1, hd1, se1, sg1, cmd1, fm_len, List.length_cons, List.length_nil, List.length_singleton]); omega)) (fun k hk => KretP_panic rfl (fun w' h => OutP.err (show encTs (toksI [x.1, x.2.1, x.2.2.1] ++ ([.s (x.2.2.2.1)] ++ ([.s (x.2.2.2.2.1)] ++ (toksI [x.2.2.2.2.2.1] ++ ([.d (x.2.2.2.2.2.2)]))))) = _ from encE2 hM1 (encE2 hM2 (encE2 hM3 (encE2 hM4 (hk))))) h.fr)) (fun M5 a5 n5 c5 hM5 hc5 hN5 => ?_)
  have hl5 := encTs_len hM5
  try simp only [List.length_append, toksI_len, clT_len, enT_len, recT_len, usT1_len, vrT_len, hdT_len, seT_len, cI_len, lsI_len, lsV_len, lsH_len, lsS_len, vr1, hd1, se1, sg1, cmd1, fm_len, List.length_cons, List.length_nil, List.length_singleton] at hl5
  refine LP_nil ?_
  change KretP _ _ _ Exit.normal _
  refine KretP_normal ?_
  refine KretP_plain ?_
  refine ret0 rfl rfl  ?_
  exact fun w' h => OutP.ok (show encTs (toksI [x.1, x.2.1, x.2.2.1] ++ ([.s (x.2.2.2.1)] ++ ([.s (x.2.2.2.2.1)] ++ (toksI [x.2.2.2.2.2.1] ++ ([.d (x.2.2.2.2.2.2)]))))) = _ from enc2 hM1 (enc2 hM2 (enc2 hM3 (enc2 hM4 (hM5))))) h.fr (h.at (i := 0) rfl) (by simp only [List.append_assoc]) (fR h 0 rfl) hc5 (hN5 _ _ (hN4 _ _ (hN3 _ _ (hN2 _ _ (hN1 _ _ (Nw.refl _ _ _))))))

theorem oc1_w (b : Nat) (a : Option Addr) (n c : Nat) (L : List Int) (x : Int) (bo : Nat) (w : World) (hb : w.heap[b]? = some (row 79 [.slice a n c])) (hu : SlR w (.slice a n c) L) (hcn : n ≤ c) (hbo : Fx [factO bo (row 77 [.pointer (some ⟨b, 0, none⟩)])] w b) (hsz : L.length + 65545 * (1) ≤ 1099511627776) :
    Calls Tryz.prog 110 #[vi x, .pointer (some ⟨bo, 0, none⟩)] w fun e w' => OutP 79 157 w b (.slice a n c) L (encTs ([.c x])) e w' := by
  have hul := hu.size
  refine calls_of_p (args := [vi x, .pointer (some ⟨bo, 0, none⟩)]) ([b]) ([(b, row 79 [.slice a n c])]) (factR (.slice a n c) L :: [factO bo (row 77 [.pointer (some ⟨b, 0, none⟩)])]) Tryz.func110 rfl rfl (ok_bl hb hu hbo) ?_
  refine J_regionP ?_
  refine LP_one ?_
  refine L_v rfl rfl rfl (V_load rfl rfl Tryz.underlying77 rfl (fun w hw => cell_of (hw.facts _ (List.mem_cons_of_mem _ (List.mem_singleton.2 rfl))).1 rfl)) ?_
  refine L_nil ?_
  refine LP_one ?_
  refine L_v rfl rfl rfl (V_move rfl rfl) ?_
  refine L_nil ?_
  refine LP_one ?_
  refine L_buildSlice (vs := [(0, vi (x))]) (l := ints [x]) rfl rfl rfl rfl rfl (bsI1 _) (fun b1 => ?_)
  refine L_nil ?_
  refine LP_out 0 rfl rfl rfl rfl rfl rfl tx68y rfl rfl (fun w1 hw => on_w b a n c L (some ⟨b1, 0, none⟩) 1 1 [x] w1 (hw.at (i := 0) rfl) (fR hw 0 rfl) hcn (SlC.of_own hw (i := 1) (ks := ints [x]) (r := []) rfl rfl 1) (by (try simp only [List.length_append, toksI_len, clT_len, enT_len, recT_len, usT1_len, vrT_len, hdT_len, seT_len, cI_len, lsI_len, lsV_len, lsH_len, lsS_len, vr1, hd1, se1, sg1, cmd1, fm_len, List.length_cons, List.length_nil, List.length_singleton]); omega)) (fun k hk => KretP_panic rfl (fun w' h => OutP.err (show encTs (toksI [x]) = _ from hk) h.fr)) (fun M1 a1 n1 c1 hM1 hc1 hN1 => ?_)
  have hl1 := encTs_len hM1
  try simp only [List.length_append, toksI_len, clT_len, enT_len, recT_len, usT1_len, vrT_len, hdT_len, seT_len, cI_len, lsI_len, lsV_len, lsH_len, lsS_len, vr1, hd1, se1, sg1, cmd1, fm_len, List.length_cons, List.length_nil, List.length_singleton] at hl1
  refine LP_nil ?_
  change KretP _ _ _ Exit.normal _
  refine KretP_normal ?_
  refine KretP_plain ?_
  refine ret0 rfl rfl  ?_
  exact fun w' h => OutP.ok (show encTs (toksI [x]) = _ from hM1) h.fr (h.at (i := 0) rfl) (by simp only [List.append_assoc]) (fR h 0 rfl) hc1 (hN1 _ _ (Nw.refl _ _ _))

theorem oc2_w (b : Nat) (a : Option Addr) (n c : Nat) (L : List Int) (x : Int) (bo : Nat) (w : World) (hb : w.heap[b]? = some (row 79 [.slice a n c])) (hu : SlR w (.slice a n c) L) (hcn : n ≤ c) (hbo : Fx [factO bo (row 77 [.pointer (some ⟨b, 0, none⟩)])] w b) (hsz : L.length + 65545 * (1) ≤ 1099511627776) :
    Calls Tryz.prog 111 #[vi x, .pointer (some ⟨bo, 0, none⟩)] w fun e w' => OutP 79 157 w b (.slice a n c) L (encTs ([.c x])) e w' := by
  have hul := hu.size
  refine calls_of_p (args := [vi x, .pointer (some ⟨bo, 0, none⟩)]) ([b]) ([(b, row 79 [.slice a n c])]) (factR (.slice a n c) L :: [factO bo (row 77 [.pointer (some ⟨b, 0, none⟩)])]) Tryz.func111 rfl rfl (ok_bl hb hu hbo) ?_
  refine J_regionP ?_
  refine LP_one ?_
  refine L_v rfl rfl rfl (V_load rfl rfl Tryz.underlying77 rfl (fun w hw => cell_of (hw.facts _ (List.mem_cons_of_mem _ (List.mem_singleton.2 rfl))).1 rfl)) ?_
  refine L_nil ?_
  refine LP_one ?_
  refine L_v rfl rfl rfl (V_move rfl rfl) ?_
  refine L_nil ?_
  refine LP_one ?_
  refine L_buildSlice (vs := [(0, vi (x))]) (l := ints [x]) rfl rfl rfl rfl rfl (bsI1 _) (fun b1 => ?_)
  refine L_nil ?_
  refine LP_out 0 rfl rfl rfl rfl rfl rfl tx68y rfl rfl (fun w1 hw => on_w b a n c L (some ⟨b1, 0, none⟩) 1 1 [x] w1 (hw.at (i := 0) rfl) (fR hw 0 rfl) hcn (SlC.of_own hw (i := 1) (ks := ints [x]) (r := []) rfl rfl 1) (by (try simp only [List.length_append, toksI_len, clT_len, enT_len, recT_len, usT1_len, vrT_len, hdT_len, seT_len, cI_len, lsI_len, lsV_len, lsH_len, lsS_len, vr1, hd1, se1, sg1, cmd1, fm_len, List.length_cons, List.length_nil, List.length_singleton]); omega)) (fun k hk => KretP_panic rfl (fun w' h => OutP.err (show encTs (toksI [x]) = _ from hk) h.fr)) (fun M1 a1 n1 c1 hM1 hc1 hN1 => ?_)
  have hl1 := encTs_len hM1
  try simp only [List.length_append, toksI_len, clT_len, enT_len, recT_len, usT1_len, vrT_len, hdT_len, seT_len, cI_len, lsI_len, lsV_len, lsH_len, lsS_len, vr1, hd1, se1, sg1, cmd1, fm_len, List.length_cons, List.length_nil, List.length_singleton] at hl1
  refine LP_nil ?_
  change KretP _ _ _ Exit.normal _
  refine KretP_normal ?_
  refine KretP_plain ?_
  refine ret0 rfl rfl  ?_
  exact fun w' h => OutP.ok (show encTs (toksI [x]) = _ from hM1) h.fr (h.at (i := 0) rfl) (by simp only [List.append_assoc]) (fR h 0 rfl) hc1 (hN1 _ _ (Nw.refl _ _ _))

theorem ocl_w0 (b : Nat) (a : Option Addr) (n c : Nat) (L : List Int) (va1 va2 : Option Addr) (vc1 vc2 : Nat) (x : Cl) (w : World) (hb : w.heap[b]? = some (row 79 [.slice a n c])) (hu : SlR w (.slice a n c) L) (hcn : n ≤ c) (hfs : Fx (clF (.slice va1 x.1.length vc1) (.slice va2 x.2.length vc2) x) w b) (hsz : L.length + 65545 * (2 + x.1.length + x.2.length) ≤ 1099511627776) :
    Calls Tryz.prog 74 #[.pointer (some ⟨b, 0, none⟩), .agg (clV (.slice va1 x.1.length vc1) (.slice va2 x.2.length vc2)).toArray] w fun e w' => OutP 79 157 w b (.slice a n c) L (encTs (clC.tk x)) e w' := by
  have hul := hu.size
  refine calls_of_p (args := [.pointer (some ⟨b, 0, none⟩), .agg (clV (.slice va1 x.1.length vc1) (.slice va2 x.2.length vc2)).toArray]) ([b]) ([(b, row 79 [.slice a n c])]) (factR (.slice a n c) L :: clF (.slice va1 x.1.length vc1) (.slice va2 x.2.length vc2) x) Tryz.func74 rfl rfl (ok_bl hb hu hfs) ?_
  refine J_seq ?_
  refine J_region ?_
  refine L_box rfl rfl rfl rfl rfl (fun b1 => ?_)
  refine L_box rfl rfl rfl rfl rfl (fun b2 => ?_)
  refine L_nil ?_
  change J _ _ _ _
  refine J_seq ?_
  refine J_regionP ?_
  refine LP_one ?_
  refine L_v rfl rfl rfl (V_load1 1 rfl rfl rfl Tryz.underlying77 rfl (by first | rfl | exact dg_get (by omega) (by omega))) ?_
  refine L_nil ?_
  refine LP_one ?_
  refine L_v rfl rfl rfl (V_fieldAddr rfl rfl Tryz.underlying36 rfl sz34y rfl) ?_
  refine L_nil ?_
  refine LP_one ?_
  refine L_v rfl rfl rfl (V_load1 2 rfl rfl rfl Tryz.underlying34 rfl (by first | rfl | exact dg_get (by omega) (by omega))) ?_
  refine L_nil ?_
  refine LP_one ?_
  refine L_v rfl rfl rfl (V_makeFunc rfl rfl rfl) ?_
  refine L_nil ?_
  refine LP_out 0 rfl rfl rfl rfl rfl rfl tx109y rfl rfl (fun w1 hw => li_w b a n c L va1 x.1.length vc1 x.1 (x.1.map cC.tk) 110 #[] #[.pointer (some ⟨b1, 0, none⟩)] [factO b1 (row 77 [.pointer (some ⟨b, 0, none⟩)])] w1 (hw.at (i := 0) rfl) (fR hw 0 rfl) hcn rfl (by rw [List.length_map]) tx110y (fun f hf => by rcases List.mem_cons.1 hf with rfl | hf; exact facts0 hw rfl _ (List.mem_cons_self ..); obtain rfl := List.mem_singleton.1 hf; exact factsOwn hw (i := 1) rfl rfl (by decide)) (fun i hi W a' n' c' L' hb' hu' hc' hs' hf' => by rw [map_getD cC.tk 0 (by omega)] at hs' ⊢; exact oc1_w b a' n' c' L' (x.1.getD i 0) b1 W hb' hu' hc' hf' hs') (by (try simp only [List.length_append, toksI_len, clT_len, enT_len, recT_len, usT1_len, vrT_len, hdT_len, seT_len, cI_len, lsI_len, lsV_len, lsH_len, lsS_len, vr1, hd1, se1, sg1, cmd1, fm_len, List.length_cons, List.length_nil, List.length_singleton]); omega)) (fun k hk => KretP_panic rfl (fun w' h => OutP.err (show encTs ((ls cC).tk x.1 ++ ((ls cC).tk x.2)) = _ from encE1 hk) h.fr)) (fun M1 a1 n1 c1 hM1 hc1 hN1 => ?_)
  have hl1 := encTs_len hM1
  try simp only [List.length_append, toksI_len, clT_len, enT_len, recT_len, usT1_len, vrT_len, hdT_len, seT_len, cI_len, lsI_len, lsV_len, lsH_len, lsS_len, vr1, hd1, se1, sg1, cmd1, fm_len, List.length_cons, List.length_nil, List.length_singleton] at hl1
  refine LP_nil ?_
  change J _ _ _ _
  refine J_regionP ?_
  refine LP_one ?_
  refine L_v rfl rfl rfl (V_load1 1 rfl rfl rfl Tryz.underlying77 rfl (by first | rfl | exact dg_get (by omega) (by omega))) ?_
  refine L_nil ?_
  refine LP_one ?_
  refine L_v rfl rfl rfl (V_fieldAddr rfl rfl Tryz.underlying36 rfl sz34y rfl) ?_
  refine L_nil ?_
  refine LP_one ?_
  refine L_v rfl rfl rfl (V_load1 2 rfl rfl rfl Tryz.underlying34 rfl (by first | rfl | exact dg_get (by omega) (by omega))) ?_
  refine L_nil ?_
  refine LP_one ?_
  refine L_v rfl rfl rfl (V_makeFunc rfl rfl rfl) ?_
  refine L_nil ?_
  refine LP_out 0 rfl rfl rfl rfl rfl rfl tx109y rfl rfl (fun w1 hw => li_w b a1 n1 c1 (L ++ M1) va2 x.2.length vc2 x.2 (x.2.map cC.tk) 111 #[] #[.pointer (some ⟨b1, 0, none⟩)] [factO b1 (row 77 [.pointer (some ⟨b, 0, none⟩)])] w1 (hw.at (i := 0) rfl) (fR hw 0 rfl) hc1 rfl (by rw [List.length_map]) tx111y (fun f hf => by rcases List.mem_cons.1 hf with rfl | hf; exact facts0 hw rfl _ (List.mem_cons_of_mem _ (List.mem_cons_self ..)); obtain rfl := List.mem_singleton.1 hf; exact factsOwn hw (i := 1) rfl rfl (by decide)) (fun i hi W a' n' c' L' hb' hu' hc' hs' hf' => by rw [map_getD cC.tk 0 (by omega)] at hs' ⊢; exact oc2_w b a' n' c' L' (x.2.getD i 0) b1 W hb' hu' hc' hf' hs') (by (try simp only [List.length_append, toksI_len, clT_len, enT_len, recT_len, usT1_len, vrT_len, hdT_len, seT_len, cI_len, lsI_len, lsV_len, lsH_len, lsS_len, vr1, hd1, se1, sg1, cmd1, fm_len, List.length_cons, List.length_nil, List.length_singleton]); omega)) (fun k hk => KretP_panic rfl (fun w' h => OutP.err (show encTs ((ls cC).tk x.1 ++ ((ls cC).tk x.2)) = _ from encE2 hM1 (hk)) h.fr)) (fun M2 a2 n2 c2 hM2 hc2 hN2 => ?_)
  have hl2 := encTs_len hM2
  try simp only [List.length_append, toksI_len, clT_len, enT_len, recT_len, usT1_len, vrT_len, hdT_len, seT_len, cI_len, lsI_len, lsV_len, lsH_len, lsS_len, vr1, hd1, se1, sg1, cmd1, fm_len, List.length_cons, List.length_nil, List.length_singleton] at hl2
  refine LP_nil ?_
  change KretP _ _ _ Exit.normal _
  refine KretP_normal ?_
  refine KretP_plain ?_
  refine ret0 rfl rfl  ?_
  exact fun w' h => OutP.ok (show encTs ((ls cC).tk x.1 ++ ((ls cC).tk x.2)) = _ from enc2 hM1 (hM2)) h.fr (h.at (i := 0) rfl) (by simp only [List.append_assoc]) (fR h 0 rfl) hc2 (hN2 _ _ (hN1 _ _ (Nw.refl _ _ _)))

theorem ocl_w (b : Nat) (a : Option Addr) (n c : Nat) (L : List Int) (v1 v2 : Value) (x : Cl) (w : World) (hb : w.heap[b]? = some (row 79 [.slice a n c])) (hu : SlR w (.slice a n c) L) (hcn : n ≤ c) (hfs : Fx (clF v1 v2 x) w b) (hsz : L.length + 65545 * (2 + x.1.length + x.2.length) ≤ 1099511627776) :
    Calls Tryz.prog 74 #[.pointer (some ⟨b, 0, none⟩), .agg (clV v1 v2).toArray] w fun e w' => OutP 79 157 w b (.slice a n c) L (encTs (clC.tk x)) e w' := by
  obtain ⟨va1, vc1, rfl⟩ := SlC.form (hfs _ (List.mem_cons_self ..)).1
  obtain ⟨va2, vc2, rfl⟩ := SlC.form (hfs _ (List.mem_cons_of_mem _ (List.mem_cons_self ..))).1
  exact ocl_w0 b a n c L va1 va2 vc1 vc2 x w hb hu hcn hfs hsz

theorem oent_w (b : Nat) (a : Option Addr) (n c : Nat) (L : List Int) (v1 v2 : Value) (x : En) (w : World) (hb : w.heap[b]? = some (row 79 [.slice a n c])) (hu : SlR w (.slice a n c) L) (hcn : n ≤ c) (hfs : Fx (clF v1 v2 x.2.2.2.2) w b) (hsz : L.length + 65545 * (12 + x.2.2.2.2.1.length + x.2.2.2.2.2.length) ≤ 1099511627776) :
    Calls Tryz.prog 39 #[.pointer (some ⟨b, 0, none⟩), .agg (enV x v1 v2).toArray] w fun e w' => OutP 79 157 w b (.slice a n c) L (encTs (enC.tk x)) e w' := by
  have hul := hu.size
  refine calls_of_p (args := [.pointer (some ⟨b, 0, none⟩), .agg (enV x v1 v2).toArray]) ([b]) ([(b, row 79 [.slice a n c])]) (factR (.slice a n c) L :: clF v1 v2 x.2.2.2.2) Tryz.func39 rfl rfl (ok_bl hb hu hfs) ?_
  refine J_seq ?_
  refine J_region ?_
  refine L_box rfl rfl rfl rfl rfl (fun b1 => ?_)
  refine L_nil ?_
  change J _ _ _ _
  refine J_seq ?_
  refine J_regionP ?_
  refine LP_one ?_
  refine L_v rfl rfl rfl (V_move rfl rfl) ?_
  refine L_nil ?_
  refine LP_one ?_
  refine L_v rfl rfl rfl (V_fieldAddr rfl rfl Tryz.underlying38 rfl sz3y rfl) ?_
  refine L_nil ?_
  refine LP_one ?_
  refine L_v rfl rfl rfl (V_load1 1 rfl rfl rfl Tryz.underlying3 rfl (by first | rfl | exact dg_get (by omega) (by omega))) ?_
  refine L_nil ?_
  refine LP_one ?_
  refine L_v rfl rfl rfl (V_fieldAddr rfl rfl Tryz.underlying38 rfl sz3y rfl) ?_
  refine L_nil ?_
  refine LP_one ?_
  refine L_v rfl rfl rfl (V_load1 1 rfl rfl rfl Tryz.underlying3 rfl (by first | rfl | exact dg_get (by omega) (by omega))) ?_
  refine L_nil ?_
  refine LP_one ?_
  refine L_v rfl rfl rfl (V_fieldAddr rfl rfl Tryz.underlying38 rfl sz33y rfl) ?_
  refine L_nil ?_
  refine LP_one ?_
  refine L_v rfl rfl rfl (V_load1 1 rfl rfl rfl Tryz.underlying33 rfl (by first | rfl | exact dg_get (by omega) (by omega))) ?_
  refine L_nil ?_
  refine LP_one ?_
  refine L_buildSlice (vs := [(0, vi (x.1)), (1, vi (x.2.1)), (2, vi (x.2.2.1))]) (l := ints [x.1, x.2.1, x.2.2.1]) rfl rfl rfl rfl rfl (bsI3 _ _ _) (fun b2 => ?_)
  refine L_nil ?_
  refine LP_out 0 rfl rfl rfl rfl rfl rfl tx68y rfl rfl (fun w1 hw => on_w b a n c L (some ⟨b2, 0, none⟩) 3 3 [x.1, x.2.1, x.2.2.1] w1 (hw.at (i := 0) rfl) (fR hw 0 rfl) hcn (SlC.of_own hw (i := 2) (ks := ints [x.1, x.2.1, x.2.2.1]) (r := []) rfl rfl 3) (by (try simp only [List.length_append, toksI_len, clT_len, enT_len, recT_len, usT1_len, vrT_len, hdT_len, seT_len, cI_len, lsI_len, lsV_len, lsH_len, lsS_len, vr1, hd1, se1, sg1, cmd1, fm_len, List.length_cons, List.length_nil, List.length_singleton]); omega)) (fun k hk => KretP_panic rfl (fun w' h => OutP.err (show encTs (toksI [x.1, x.2.1, x.2.2.1] ++ (cmdC.tk x.2.2.2.1 ++ (clC.tk x.2.2.2.2))) = _ from encE1 hk) h.fr)) (fun M1 a1 n1 c1 hM1 hc1 hN1 => ?_)
  have hl1 := encTs_len hM1
  try simp only [List.length_append, toksI_len, clT_len, enT_len, recT_len, usT1_len, vrT_len, hdT_len, seT_len, cI_len, lsI_len, lsV_len, lsH_len, lsS_len, vr1, hd1, se1, sg1, cmd1, fm_len, List.length_cons, List.length_nil, List.length_singleton] at hl1
  refine LP_nil ?_
  change J _ _ _ _
  refine J_seq ?_
  refine J_regionP ?_
  refine LP_one ?_
  refine L_v rfl rfl rfl (V_move rfl rfl) ?_
  refine L_nil ?_
  refine LP_one ?_
  refine L_v rfl rfl rfl (V_fieldAddr rfl rfl Tryz.underlying38 rfl sz27y rfl) ?_
  refine L_nil ?_
  refine LP_one ?_
  refine L_v rfl rfl rfl (V_loadT 1 (vs := cmdV x.2.2.2.1) rfl rfl rfl Tryz.underlying27 rfl sz27y rfl rfl) ?_
  refine L_nil ?_
  refine LP_out 0 rfl rfl rfl rfl rfl rfl tx34y rfl rfl (fun w1 hw => ocmd_w b a1 n1 c1 (L ++ M1) x.2.2.2.1 w1 (hw.at (i := 0) rfl) (fR hw 0 rfl) hc1 (by (try simp only [List.length_append, toksI_len, clT_len, enT_len, recT_len, usT1_len, vrT_len, hdT_len, seT_len, cI_len, lsI_len, lsV_len, lsH_len, lsS_len, vr1, hd1, se1, sg1, cmd1, fm_len, List.length_cons, List.length_nil, List.length_singleton]); omega)) (fun k hk => KretP_panic rfl (fun w' h => OutP.err (show encTs (toksI [x.1, x.2.1, x.2.2.1] ++ (cmdC.tk x.2.2.2.1 ++ (clC.tk x.2.2.2.2))) = _ from encE2 hM1 (encE1 hk)) h.fr)) (fun M2 a2 n2 c2 hM2 hc2 hN2 => ?_)
  have hl2 := encTs_len hM2
  try simp only [List.length_append, toksI_len, clT_len, enT_len, recT_len, usT1_len, vrT_len, hdT_len, seT_len, cI_len, lsI_len, lsV_len, lsH_len, lsS_len, vr1, hd1, se1, sg1, cmd1, fm_len, List.length_cons, List.length_nil, List.length_singleton] at hl2
  refine LP_nil ?_
  change J _ _ _ _
  refine J_regionP ?_
  refine LP_one ?_
  refine L_v rfl rfl rfl (V_move rfl rfl) ?_
  refine L_nil ?_
  refine LP_one ?_
  refine L_v rfl rfl rfl (V_fieldAddr rfl rfl Tryz.underlying38 rfl sz36y rfl) ?_
  refine L_nil ?_
  refine LP_one ?_
  refine L_v rfl rfl rfl (V_loadT 1 (vs := clV v1 v2) rfl rfl rfl Tryz.underlying36 rfl sz36y rfl rfl) ?_
  refine L_nil ?_
  refine LP_out 0 rfl rfl rfl rfl rfl rfl tx74y rfl rfl (fun w1 hw => ocl_w b a2 n2 c2 ((L ++ M1) ++ M2) v1 v2 x.2.2.2.2 w1 (hw.at (i := 0) rfl) (fR hw 0 rfl) hc2 (facts0 hw rfl) (by (try simp only [List.length_append, toksI_len, clT_len, enT_len, recT_len, usT1_len, vrT_len, hdT_len, seT_len, cI_len, lsI_len, lsV_len, lsH_len, lsS_len, vr1, hd1, se1, sg1, cmd1, fm_len, List.length_cons, List.length_nil, List.length_singleton]); omega)) (fun k hk => KretP_panic rfl (fun w' h => OutP.err (show encTs (toksI [x.1, x.2.1, x.2.2.1] ++ (cmdC.tk x.2.2.2.1 ++ (clC.tk x.2.2.2.2))) = _ from encE2 hM1 (encE2 hM2 (hk))) h.fr)) (fun M3 a3 n3 c3 hM3 hc3 hN3 => ?_)
  have hl3 := encTs_len hM3
  try simp only [List.length_append, toksI_len, clT_len, enT_len, recT_len, usT1_len, vrT_len, hdT_len, seT_len, cI_len, lsI_len, lsV_len, lsH_len, lsS_len, vr1, hd1, se1, sg1, cmd1, fm_len, List.length_cons, List.length_nil, List.length_singleton] at hl3
  refine LP_nil ?_
  change KretP _ _ _ Exit.normal _
  refine KretP_normal ?_
  refine KretP_plain ?_
  refine ret0 rfl rfl  ?_
  exact fun w' h => OutP.ok (show encTs (toksI [x.1, x.2.1, x.2.2.1] ++ (cmdC.tk x.2.2.2.1 ++ (clC.tk x.2.2.2.2))) = _ from enc2 hM1 (enc2 hM2 (hM3))) h.fr (h.at (i := 0) rfl) (by simp only [List.append_assoc]) (fR h 0 rfl) hc3 (hN3 _ _ (hN2 _ _ (hN1 _ _ (Nw.refl _ _ _))))

theorem rec_toks (x : Rec) : recC.tk x = toksI [x.1, x.2.1, x.2.2.1] ++ (enC.tk x.2.2.2.1 ++ (toksI [x.2.2.2.2.1, x.2.2.2.2.2.1.1, x.2.2.2.2.2.1.2.1] ++ (clC.tk x.2.2.2.2.2.1.2.2.1 ++ ([.s x.2.2.2.2.2.1.2.2.2] ++ sgC.tk x.2.2.2.2.2.2)))) := by
  show [Tok.c x.1] ++ ([Tok.c x.2.1] ++ ([Tok.c x.2.2.1] ++ (enC.tk x.2.2.2.1 ++ ([Tok.c x.2.2.2.2.1] ++ (([Tok.c x.2.2.2.2.2.1.1] ++ ([Tok.c x.2.2.2.2.2.1.2.1] ++ (clC.tk x.2.2.2.2.2.1.2.2.1 ++ [Tok.s x.2.2.2.2.2.1.2.2.2]))) ++ sgC.tk x.2.2.2.2.2.2))))) = _
  simp [toksI, List.append_assoc]
theorem orec_w (b : Nat) (a : Option Addr) (n c : Nat) (L : List Int) (v1 v2 v3 v4 : Value) (x : Rec) (w : World) (hb : w.heap[b]? = some (row 79 [.slice a n c])) (hu : SlR w (.slice a n c) L) (hcn : n ≤ c) (hfs : Fx (clF v1 v2 x.2.2.2.1.2.2.2.2 ++ clF v3 v4 x.2.2.2.2.2.1.2.2.1) w b) (hsz : L.length + 65545 * (25 + x.2.2.2.1.2.2.2.2.1.length + x.2.2.2.1.2.2.2.2.2.length + x.2.2.2.2.2.1.2.2.1.1.length + x.2.2.2.2.2.1.2.2.1.2.length) ≤ 1099511627776) :
    Calls Tryz.prog 45 #[.pointer (some ⟨b, 0, none⟩), .agg (recV x v1 v2 v3 v4).toArray] w fun e w' => OutP 79 157 w b (.slice a n c) L (encTs (recC.tk x)) e w' := by
  have hul := hu.size
  refine calls_of_p (args := [.pointer (some ⟨b, 0, none⟩), .agg (recV x v1 v2 v3 v4).toArray]) ([b]) ([(b, row 79 [.slice a n c])]) (factR (.slice a n c) L :: (clF v1 v2 x.2.2.2.1.2.2.2.2 ++ clF v3 v4 x.2.2.2.2.2.1.2.2.1)) Tryz.func45 rfl rfl (ok_bl hb hu hfs) ?_
  refine J_seq ?_
  refine J_region ?_
  refine L_box rfl rfl rfl rfl rfl (fun b1 => ?_)
  refine L_nil ?_
  change J _ _ _ _
  refine J_seq ?_
  refine J_regionP ?_
  refine LP_one ?_
  refine L_v rfl rfl rfl (V_move rfl rfl) ?_
  refine L_nil ?_
  refine LP_one ?_
  refine L_v rfl rfl rfl (V_fieldAddr rfl rfl Tryz.underlying51 rfl sz43y rfl) ?_
  refine L_nil ?_
  refine LP_one ?_
  refine L_v rfl rfl rfl (V_load1 1 rfl rfl rfl Tryz.underlying43 rfl (by first | rfl | exact dg_get (by omega) (by omega))) ?_
  refine L_nil ?_
  refine LP_one ?_
  refine L_v rfl rfl rfl (V_fieldAddr rfl rfl Tryz.underlying51 rfl sz3y rfl) ?_
  refine L_nil ?_
  refine LP_one ?_
  refine L_v rfl rfl rfl (V_load1 1 rfl rfl rfl Tryz.underlying3 rfl (by first | rfl | exact dg_get (by omega) (by omega))) ?_
  refine L_nil ?_
  refine LP_one ?_
  refine L_v rfl rfl rfl (V_fieldAddr rfl rfl Tryz.underlying51 rfl sz3y rfl) ?_
  refine L_nil ?_
  refine LP_one ?_
  refine L_v rfl rfl rfl (V_load1 1 rfl rfl rfl Tryz.underlying3 rfl (by first | rfl | exact dg_get (by omega) (by omega))) ?_
  refine L_nil ?_
  refine LP_one ?_
  refine L_buildSlice (vs := [(0, vi (x.1)), (1, vi (x.2.1)), (2, vi (x.2.2.1))]) (l := ints [x.1, x.2.1, x.2.2.1]) rfl rfl rfl rfl rfl (bsI3 _ _ _) (fun b2 => ?_)
  refine L_nil ?_
  refine LP_out 0 rfl rfl rfl rfl rfl rfl tx68y rfl rfl (fun w1 hw => on_w b a n c L (some ⟨b2, 0, none⟩) 3 3 [x.1, x.2.1, x.2.2.1] w1 (hw.at (i := 0) rfl) (fR hw 0 rfl) hcn (SlC.of_own hw (i := 2) (ks := ints [x.1, x.2.1, x.2.2.1]) (r := []) rfl rfl 3) (by (try simp only [List.length_append, toksI_len, clT_len, enT_len, recT_len, usT1_len, vrT_len, hdT_len, seT_len, cI_len, lsI_len, lsV_len, lsH_len, lsS_len, vr1, hd1, se1, sg1, cmd1, fm_len, List.length_cons, List.length_nil, List.length_singleton]); omega)) (fun k hk => KretP_panic rfl (fun w' h => OutP.err (by rw [rec_toks]; exact (encE1 hk)) h.fr)) (fun M1 a1 n1 c1 hM1 hc1 hN1 => ?_)
  have hl1 := encTs_len hM1
  try simp only [List.length_append, toksI_len, clT_len, enT_len, recT_len, usT1_len, vrT_len, hdT_len, seT_len, cI_len, lsI_len, lsV_len, lsH_len, lsS_len, vr1, hd1, se1, sg1, cmd1, fm_len, List.length_cons, List.length_nil, List.length_singleton] at hl1
  refine LP_nil ?_
  change J _ _ _ _
  refine J_seq ?_
  refine J_regionP ?_
  refine LP_one ?_
  refine L_v rfl rfl rfl (V_move rfl rfl) ?_
  refine L_nil ?_
  refine LP_one ?_
  refine L_v rfl rfl rfl (V_fieldAddr rfl rfl Tryz.underlying51 rfl sz38y rfl) ?_
  refine L_nil ?_
  refine LP_one ?_
  refine L_v rfl rfl rfl (V_loadT 1 (vs := enV x.2.2.2.1 v1 v2) rfl rfl rfl Tryz.underlying38 rfl sz38y rfl rfl) ?_
  refine L_nil ?_
  refine LP_out 0 rfl rfl rfl rfl rfl rfl tx39y rfl rfl (fun w1 hw => oent_w b a1 n1 c1 (L ++ M1) v1 v2 x.2.2.2.1 w1 (hw.at (i := 0) rfl) (fR hw 0 rfl) hc1 (fun f hf => facts0 hw rfl f (List.mem_append_left _ hf)) (by (try simp only [List.length_append, toksI_len, clT_len, enT_len, recT_len, usT1_len, vrT_len, hdT_len, seT_len, cI_len, lsI_len, lsV_len, lsH_len, lsS_len, vr1, hd1, se1, sg1, cmd1, fm_len, List.length_cons, List.length_nil, List.length_singleton]); omega)) (fun k hk => KretP_panic rfl (fun w' h => OutP.err (by rw [rec_toks]; exact (encE2 hM1 (encE1 hk))) h.fr)) (fun M2 a2 n2 c2 hM2 hc2 hN2 => ?_)
  have hl2 := encTs_len hM2
  try simp only [List.length_append, toksI_len, clT_len, enT_len, recT_len, usT1_len, vrT_len, hdT_len, seT_len, cI_len, lsI_len, lsV_len, lsH_len, lsS_len, vr1, hd1, se1, sg1, cmd1, fm_len, List.length_cons, List.length_nil, List.length_singleton] at hl2
  refine LP_nil ?_
  change J _ _ _ _
  refine J_seq ?_
  refine J_regionP ?_
  refine LP_one ?_
  refine L_v rfl rfl rfl (V_move rfl rfl) ?_
  refine L_nil ?_
  refine LP_one ?_
  refine L_v rfl rfl rfl (V_fieldAddr rfl rfl Tryz.underlying51 rfl sz3y rfl) ?_
  refine L_nil ?_
  refine LP_one ?_
  refine L_v rfl rfl rfl (V_load1 1 rfl rfl rfl Tryz.underlying3 rfl (by first | rfl | exact dg_get (by omega) (by omega))) ?_
  refine L_nil ?_
  refine LP_one ?_
  refine L_v rfl rfl rfl (V_fieldAddr rfl rfl Tryz.underlying51 rfl sz45y rfl) ?_
  refine L_nil ?_
  refine LP_one ?_
  refine L_v rfl rfl rfl (V_fieldAddr rfl rfl Tryz.underlying45 rfl sz3y rfl) ?_
  refine L_nil ?_
  refine LP_one ?_
  refine L_v rfl rfl rfl (V_load1 1 rfl rfl rfl Tryz.underlying3 rfl (by first | rfl | exact dg_get (by omega) (by omega))) ?_
  refine L_nil ?_
  refine LP_one ?_
  refine L_v rfl rfl rfl (V_fieldAddr rfl rfl Tryz.underlying51 rfl sz45y rfl) ?_
  refine L_nil ?_
  refine LP_one ?_
  refine L_v rfl rfl rfl (V_fieldAddr rfl rfl Tryz.underlying45 rfl sz3y rfl) ?_
  refine L_nil ?_
  refine LP_one ?_
  refine L_v rfl rfl rfl (V_load1 1 rfl rfl rfl Tryz.underlying3 rfl (by first | rfl | exact dg_get (by omega) (by omega))) ?_
  refine L_nil ?_
  refine LP_one ?_
  refine L_buildSlice (vs := [(0, vi (x.2.2.2.2.1)), (1, vi (x.2.2.2.2.2.1.1)), (2, vi (x.2.2.2.2.2.1.2.1))]) (l := ints [x.2.2.2.2.1, x.2.2.2.2.2.1.1, x.2.2.2.2.2.1.2.1]) rfl rfl rfl rfl rfl (bsI3 _ _ _) (fun b3 => ?_)
  refine L_nil ?_
  refine LP_out 0 rfl rfl rfl rfl rfl rfl tx68y rfl rfl (fun w1 hw => on_w b a2 n2 c2 ((L ++ M1) ++ M2) (some ⟨b3, 0, none⟩) 3 3 [x.2.2.2.2.1, x.2.2.2.2.2.1.1, x.2.2.2.2.2.1.2.1] w1 (hw.at (i := 0) rfl) (fR hw 0 rfl) hc2 (SlC.of_own hw (i := 3) (ks := ints [x.2.2.2.2.1, x.2.2.2.2.2.1.1, x.2.2.2.2.2.1.2.1]) (r := []) rfl rfl 3) (by (try simp only [List.length_append, toksI_len, clT_len, enT_len, recT_len, usT1_len, vrT_len, hdT_len, seT_len, cI_len, lsI_len, lsV_len, lsH_len, lsS_len, vr1, hd1, se1, sg1, cmd1, fm_len, List.length_cons, List.length_nil, List.length_singleton]); omega)) (fun k hk => KretP_panic rfl (fun w' h => OutP.err (by rw [rec_toks]; exact (encE2 hM1 (encE2 hM2 (encE1 hk)))) h.fr)) (fun M3 a3 n3 c3 hM3 hc3 hN3 => ?_)
  have hl3 := encTs_len hM3
  try simp only [List.length_append, toksI_len, clT_len, enT_len, recT_len, usT1_len, vrT_len, hdT_len, seT_len, cI_len, lsI_len, lsV_len, lsH_len, lsS_len, vr1, hd1, se1, sg1, cmd1, fm_len, List.length_cons, List.length_nil, List.length_singleton] at hl3
  refine LP_nil ?_
  change J _ _ _ _
  refine J_seq ?_
  refine J_regionP ?_
  refine LP_one ?_
  refine L_v rfl rfl rfl (V_move rfl rfl) ?_
  refine L_nil ?_
  refine LP_one ?_
  refine L_v rfl rfl rfl (V_fieldAddr rfl rfl Tryz.underlying51 rfl sz45y rfl) ?_
  refine L_nil ?_
  refine LP_one ?_
  refine L_v rfl rfl rfl (V_fieldAddr rfl rfl Tryz.underlying45 rfl sz36y rfl) ?_
  refine L_nil ?_
  refine LP_one ?_
  refine L_v rfl rfl rfl (V_loadT 1 (vs := clV v3 v4) rfl rfl rfl Tryz.underlying36 rfl sz36y rfl rfl) ?_
  refine L_nil ?_
  refine LP_out 0 rfl rfl rfl rfl rfl rfl tx74y rfl rfl (fun w1 hw => ocl_w b a3 n3 c3 (((L ++ M1) ++ M2) ++ M3) v3 v4 x.2.2.2.2.2.1.2.2.1 w1 (hw.at (i := 0) rfl) (fR hw 0 rfl) hc3 (fun f hf => facts0 hw rfl f (List.mem_append_right _ hf)) (by (try simp only [List.length_append, toksI_len, clT_len, enT_len, recT_len, usT1_len, vrT_len, hdT_len, seT_len, cI_len, lsI_len, lsV_len, lsH_len, lsS_len, vr1, hd1, se1, sg1, cmd1, fm_len, List.length_cons, List.length_nil, List.length_singleton]); omega)) (fun k hk => KretP_panic rfl (fun w' h => OutP.err (by rw [rec_toks]; exact (encE2 hM1 (encE2 hM2 (encE2 hM3 (encE1 hk))))) h.fr)) (fun M4 a4 n4 c4 hM4 hc4 hN4 => ?_)
  have hl4 := encTs_len hM4
  try simp only [List.length_append, toksI_len, clT_len, enT_len, recT_len, usT1_len, vrT_len, hdT_len, seT_len, cI_len, lsI_len, lsV_len, lsH_len, lsS_len, vr1, hd1, se1, sg1, cmd1, fm_len, List.length_cons, List.length_nil, List.length_singleton] at hl4
  refine LP_nil ?_
  change J _ _ _ _
  refine J_seq ?_
  refine J_regionP ?_
  refine LP_one ?_
  refine L_v rfl rfl rfl (V_move rfl rfl) ?_
  refine L_nil ?_
  refine LP_one ?_
  refine L_v rfl rfl rfl (V_fieldAddr rfl rfl Tryz.underlying51 rfl sz45y rfl) ?_
  refine L_nil ?_
  refine LP_one ?_
  refine L_v rfl rfl rfl (V_fieldAddr rfl rfl Tryz.underlying45 rfl sz9y rfl) ?_
  refine L_nil ?_
  refine LP_one ?_
  refine L_v rfl rfl rfl (V_load1 1 rfl rfl rfl Tryz.underlying9 rfl (by first | rfl | exact dg_get (by omega) (by omega))) ?_
  refine L_nil ?_
  refine LP_out 0 rfl rfl rfl rfl rfl rfl tx69y rfl rfl (fun w1 hw => os_w b a4 n4 c4 ((((L ++ M1) ++ M2) ++ M3) ++ M4) x.2.2.2.2.2.1.2.2.2 w1 (hw.at (i := 0) rfl) (fR hw 0 rfl) hc4 (by (try simp only [List.length_append, toksI_len, clT_len, enT_len, recT_len, usT1_len, vrT_len, hdT_len, seT_len, cI_len, lsI_len, lsV_len, lsH_len, lsS_len, vr1, hd1, se1, sg1, cmd1, fm_len, List.length_cons, List.length_nil, List.length_singleton]); omega)) (fun k hk => KretP_panic rfl (fun w' h => OutP.err (by rw [rec_toks]; exact (encE2 hM1 (encE2 hM2 (encE2 hM3 (encE2 hM4 (encE1 hk)))))) h.fr)) (fun M5 a5 n5 c5 hM5 hc5 hN5 => ?_)
  have hl5 := encTs_len hM5
  try simp only [List.length_append, toksI_len, clT_len, enT_len, recT_len, usT1_len, vrT_len, hdT_len, seT_len, cI_len, lsI_len, lsV_len, lsH_len, lsS_len, vr1, hd1, se1, sg1, cmd1, fm_len, List.length_cons, List.length_nil, List.length_singleton] at hl5
  refine LP_nil ?_
  change J _ _ _ _
  refine J_regionP ?_
  refine LP_one ?_
  refine L_v rfl rfl rfl (V_move rfl rfl) ?_
  refine L_nil ?_
  refine LP_one ?_
  refine L_v rfl rfl rfl (V_fieldAddr rfl rfl Tryz.underlying51 rfl sz49y rfl) ?_
  refine L_nil ?_
  refine LP_one ?_
  refine L_v rfl rfl rfl (V_loadT 1 (vs := sgV x.2.2.2.2.2.2) rfl rfl rfl Tryz.underlying49 rfl sz49y rfl rfl) ?_
  refine L_nil ?_
  refine LP_out 0 rfl rfl rfl rfl rfl rfl tx51y rfl rfl (fun w1 hw => osig_w b a5 n5 c5 (((((L ++ M1) ++ M2) ++ M3) ++ M4) ++ M5) x.2.2.2.2.2.2 w1 (hw.at (i := 0) rfl) (fR hw 0 rfl) hc5 (by (try simp only [List.length_append, toksI_len, clT_len, enT_len, recT_len, usT1_len, vrT_len, hdT_len, seT_len, cI_len, lsI_len, lsV_len, lsH_len, lsS_len, vr1, hd1, se1, sg1, cmd1, fm_len, List.length_cons, List.length_nil, List.length_singleton]); omega)) (fun k hk => KretP_panic rfl (fun w' h => OutP.err (by rw [rec_toks]; exact (encE2 hM1 (encE2 hM2 (encE2 hM3 (encE2 hM4 (encE2 hM5 (hk))))))) h.fr)) (fun M6 a6 n6 c6 hM6 hc6 hN6 => ?_)
  have hl6 := encTs_len hM6
  try simp only [List.length_append, toksI_len, clT_len, enT_len, recT_len, usT1_len, vrT_len, hdT_len, seT_len, cI_len, lsI_len, lsV_len, lsH_len, lsS_len, vr1, hd1, se1, sg1, cmd1, fm_len, List.length_cons, List.length_nil, List.length_singleton] at hl6
  refine LP_nil ?_
  change KretP _ _ _ Exit.normal _
  refine KretP_normal ?_
  refine KretP_plain ?_
  refine ret0 rfl rfl  ?_
  exact fun w' h => OutP.ok (by rw [rec_toks]; exact (enc2 hM1 (enc2 hM2 (enc2 hM3 (enc2 hM4 (enc2 hM5 (hM6))))))) h.fr (h.at (i := 0) rfl) (by simp only [List.append_assoc]) (fR h 0 rfl) hc6 (hN6 _ _ (hN5 _ _ (hN4 _ _ (hN3 _ _ (hN2 _ _ (hN1 _ _ (Nw.refl _ _ _)))))))

def v0' : Vr := (0, 0, ⟨#[]⟩)
def usW (p : Us × Value) : List Value := usV p.1 p.2
def usF (p : Us × Value) : Fact := factC 3 p.2 p.1.2.length (p.1.2.map vrV).flatten
theorem vr_1 {l : List Vr} : ∀ e ∈ l.map vrV, ∀ u ∈ e, u.oneCell' = true := by
  intro e he u hu
  obtain ⟨y, _, rfl⟩ := List.mem_map.1 he
  simp only [vrV, List.mem_cons, List.not_mem_nil, or_false] at hu
  rcases hu with rfl | rfl | rfl <;> rfl
theorem ouser_w0 (b : Nat) (a : Option Addr) (n c : Nat) (L : List Int) (va : Option Addr) (vc : Nat) (x : Us) (w : World) (hb : w.heap[b]? = some (row 79 [.slice a n c])) (hu : SlR w (.slice a n c) L) (hcn : n ≤ c) (hfs : Fx [factC 3 (.slice va x.2.length vc) x.2.length (x.2.map vrV).flatten] w b) (hsz : L.length + 65545 * (2 + 3 * x.2.length) ≤ 1099511627776) :
    Calls Tryz.prog 90 #[.pointer (some ⟨b, 0, none⟩), .agg (usV x (.slice va x.2.length vc)).toArray] w fun e w' => OutP 79 157 w b (.slice a n c) L (encTs (usC.tk x)) e w' := by
  have hul := hu.size
  refine calls_of_p (args := [.pointer (some ⟨b, 0, none⟩), .agg (usV x (.slice va x.2.length vc)).toArray]) ([b]) ([(b, row 79 [.slice a n c])]) (factR (.slice a n c) L :: [factC 3 (.slice va x.2.length vc) x.2.length (x.2.map vrV).flatten]) Tryz.func90 rfl rfl (ok_bl hb hu hfs) ?_
  refine J_seq ?_
  refine J_region ?_
  refine L_box rfl rfl rfl rfl rfl (fun b1 => ?_)
  refine L_nil ?_
  change J _ _ _ _
  refine J_seq ?_
  refine J_regionP ?_
  refine LP_one ?_
  refine L_v rfl rfl rfl (V_move rfl rfl) ?_
  refine L_nil ?_
  refine LP_one ?_
  refine L_v rfl rfl rfl (V_fieldAddr rfl rfl Tryz.underlying103 rfl sz9y rfl) ?_
  refine L_nil ?_
  refine LP_one ?_
  refine L_v rfl rfl rfl (V_load1 1 rfl rfl rfl Tryz.underlying9 rfl (by first | rfl | exact dg_get (by omega) (by omega))) ?_
  refine L_nil ?_
  refine LP_out 0 rfl rfl rfl rfl rfl rfl tx69y rfl rfl (fun w1 hw => os_w b a n c L x.1 w1 (hw.at (i := 0) rfl) (fR hw 0 rfl) hcn (by (try simp only [List.length_append, toksI_len, clT_len, enT_len, recT_len, usT1_len, vrT_len, hdT_len, seT_len, cI_len, lsI_len, lsV_len, lsH_len, lsS_len, vr1, hd1, se1, sg1, cmd1, fm_len, List.length_cons, List.length_nil, List.length_singleton]); omega)) (fun k hk => KretP_panic rfl (fun w' h => OutP.err (show encTs ([.s (x.1)] ++ ((ls vrC).tk x.2)) = _ from encE1 hk) h.fr)) (fun M1 a1 n1 c1 hM1 hc1 hN1 => ?_)
  have hl1 := encTs_len hM1
  try simp only [List.length_append, toksI_len, clT_len, enT_len, recT_len, usT1_len, vrT_len, hdT_len, seT_len, cI_len, lsI_len, lsV_len, lsH_len, lsS_len, vr1, hd1, se1, sg1, cmd1, fm_len, List.length_cons, List.length_nil, List.length_singleton] at hl1
  refine LP_nil ?_
  change J _ _ _ _
  refine J_regionP ?_
  refine LP_one ?_
  refine L_v rfl rfl rfl (V_move rfl rfl) ?_
  refine L_nil ?_
  refine LP_one ?_
  refine L_v rfl rfl rfl (V_fieldAddr rfl rfl Tryz.underlying103 rfl sz101y rfl) ?_
  refine L_nil ?_
  refine LP_one ?_
  refine L_v rfl rfl rfl (V_load1 1 rfl rfl rfl Tryz.underlying101 rfl (by first | rfl | exact dg_get (by omega) (by omega))) ?_
  refine L_nil ?_
  refine LP_one ?_
  refine L_v rfl rfl rfl (V_move rfl rfl) ?_
  refine L_nil ?_
  refine LP_one ?_
  refine L_v rfl rfl rfl (V_makeFunc rfl rfl rfl) ?_
  refine L_nil ?_
  refine LP_out 0 rfl rfl rfl rfl rfl rfl tx114y rfl rfl (fun w1 hw => lv_w b a1 n1 c1 (L ++ M1) va x.2.length vc (x.2.map vrV) (x.2.map vrC.tk) 115 #[.pointer (some ⟨b, 0, none⟩)] #[] [] w1 (hw.at (i := 0) rfl) (fR hw 0 rfl) hc1 (by intro e he; obtain ⟨y, _, rfl⟩ := List.mem_map.1 he; rfl) (by rw [List.length_map]) vr_1 (by rw [List.length_map]) tx115y (facts0 hw rfl) (fun i hi W a' n' c' L' hb' hu' hc' hs' hf' => by rw [map_getD vrC.tk v0' hi] at hs' ⊢; rw [map_getV vrV v0' hi]; exact over_w b a' n' c' L' (x.2.getD i v0') W hb' hu' hc' hs') (by (try simp only [List.length_append, toksI_len, clT_len, enT_len, recT_len, usT1_len, vrT_len, hdT_len, seT_len, cI_len, lsI_len, lsV_len, lsH_len, lsS_len, vr1, hd1, se1, sg1, cmd1, fm_len, List.length_cons, List.length_nil, List.length_singleton]); omega)) (fun k hk => KretP_panic rfl (fun w' h => OutP.err (show encTs ([.s (x.1)] ++ ((ls vrC).tk x.2)) = _ from encE2 hM1 (hk)) h.fr)) (fun M2 a2 n2 c2 hM2 hc2 hN2 => ?_)
  have hl2 := encTs_len hM2
  try simp only [List.length_append, toksI_len, clT_len, enT_len, recT_len, usT1_len, vrT_len, hdT_len, seT_len, cI_len, lsI_len, lsV_len, lsH_len, lsS_len, vr1, hd1, se1, sg1, cmd1, fm_len, List.length_cons, List.length_nil, List.length_singleton] at hl2
  refine LP_nil ?_
  change KretP _ _ _ Exit.normal _
  refine KretP_normal ?_
  refine KretP_plain ?_
  refine ret0 rfl rfl  ?_
  exact fun w' h => OutP.ok (show encTs ([.s (x.1)] ++ ((ls vrC).tk x.2)) = _ from enc2 hM1 (hM2)) h.fr (h.at (i := 0) rfl) (by simp only [List.append_assoc]) (fR h 0 rfl) hc2 (hN2 _ _ (hN1 _ _ (Nw.refl _ _ _)))

theorem ouser_w (b : Nat) (a : Option Addr) (n c : Nat) (L : List Int) (v : Value) (x : Us) (w : World) (hb : w.heap[b]? = some (row 79 [.slice a n c])) (hu : SlR w (.slice a n c) L) (hcn : n ≤ c) (hfs : Fx [usF (x, v)] w b) (hsz : L.length + 65545 * (2 + 3 * x.2.length) ≤ 1099511627776) :
    Calls Tryz.prog 90 #[.pointer (some ⟨b, 0, none⟩), .agg (usV x v).toArray] w fun e w' => OutP 79 157 w b (.slice a n c) L (encTs (usC.tk x)) e w' := by
  obtain ⟨va, vc, e⟩ := SlC.form (hfs _ (List.mem_cons_self ..)).1
  have e' : v = .slice va x.2.length vc := e
  subst e'
  exact ouser_w0 b a n c L va vc x w hb hu hcn hfs hsz

def v0'' : ByteArray := ⟨#[]⟩
theorem us_get {us : List (Us × Value)} {i : Nat} (h : i < us.length) : (us.map Prod.fst).getD i (v0'', []) = (us.getD i ((v0'', []), .nilFunc)).1 := by
  rw [List.getD_eq_getElem?_getD, List.getElem?_map, List.getElem?_eq_getElem h, List.getD_eq_getElem?_getD, List.getElem?_eq_getElem h]
  rfl
theorem us_getV {us : List (Us × Value)} {i : Nat} (h : i < us.length) : (us.map usW).getD i [] = usV (us.getD i ((v0'', []), .nilFunc)).1 (us.getD i ((v0'', []), .nilFunc)).2 := by
  rw [List.getD_eq_getElem?_getD, List.getElem?_map, List.getElem?_eq_getElem h, List.getD_eq_getElem?_getD, List.getElem?_eq_getElem h]
  rfl
theorem us_1 {us : List (Us × Value)} (hs : ∀ p ∈ us, ∃ a n c, p.2 = .slice a n c) : ∀ e ∈ us.map usW, ∀ u ∈ e, u.oneCell' = true := by
  intro e he u hu
  obtain ⟨y, _, rfl⟩ := List.mem_map.1 he
  simp only [usW, usV, List.mem_cons, List.not_mem_nil, or_false] at hu
  rcases hu with rfl | rfl
  · rfl
  · obtain ⟨a, n, c, e⟩ := hs _ (by assumption)
    rw [e]
    rfl
theorem hd_1 {l : List Hd} : ∀ e ∈ l.map hdV, ∀ u ∈ e, u.oneCell' = true := by
  intro e he u hu
  obtain ⟨y, _, rfl⟩ := List.mem_map.1 he
  simp only [hdV, List.mem_cons, List.mem_append] at hu
  rcases hu with rfl | hu | hu
  · rfl
  · exact dg_one _ u hu
  · exact dg_one _ u hu
theorem se_1 {l : List Se} : ∀ e ∈ l.map seV, ∀ u ∈ e, u.oneCell' = true := by
  intro e he u hu
  obtain ⟨y, _, rfl⟩ := List.mem_map.1 he
  simp only [seV, List.mem_cons, List.not_mem_nil, or_false] at hu
  rcases hu with rfl | rfl | rfl | rfl <;> rfl
theorem dir_toks (e0 : Int) (us : List (Us × Value)) (hs : List Hd) (ss : List Se) : drC.tk (e0, us.map Prod.fst, hs, ss) = toksI [e0] ++ ((.ln us.length :: ((us.map Prod.fst).map usC.tk).flatten) ++ ((ls hdC).tk hs ++ (ls seC).tk ss)) := by
  show [Tok.c e0] ++ ((.ln (us.map Prod.fst).length :: _) ++ _) = _
  rw [List.length_map]
  rfl
theorem lsU_len (l : List Us) : ((ls usC).tk l).length = 1 + (l.flatMap usC.tk).length := by
  show (_ :: l.flatMap usC.tk).length = _
  rw [List.length_cons, Nat.add_comm]
theorem odir_w0 (b : Nat) (a : Option Addr) (n c : Nat) (L : List Int) (va1 va2 va3 : Option Addr) (vc1 vc2 vc3 : Nat) (e0 : Int) (us : List (Us × Value)) (hs : List Hd) (ss : List Se) (w : World) (hb : w.heap[b]? = some (row 79 [.slice a n c])) (hu : SlR w (.slice a n c) L) (hcn : n ≤ c) (hfs : Fx (factC 2 (.slice va1 us.length vc1) us.length (us.map usW).flatten :: factC 65 (.slice va2 hs.length vc2) hs.length (hs.map hdV).flatten :: factC 4 (.slice va3 ss.length vc3) ss.length (ss.map seV).flatten :: us.map usF) w b) (hsz : L.length + 65545 * (4 + ((us.map Prod.fst).flatMap usC.tk).length + 3 * hs.length + 4 * ss.length) ≤ 1099511627776) :
    Calls Tryz.prog 56 #[.pointer (some ⟨b, 0, none⟩), .agg (drV e0 (.slice va1 us.length vc1) (.slice va2 hs.length vc2) (.slice va3 ss.length vc3)).toArray] w fun e w' => OutP 79 157 w b (.slice a n c) L (encTs (drC.tk (e0, us.map Prod.fst, hs, ss))) e w' := by
  have hul := hu.size
  have hus : ∀ p ∈ us, ∃ a n c, p.2 = .slice a n c := fun p hp => by
    obtain ⟨a, c, e⟩ := SlC.form (hfs (usF p) (List.mem_cons_of_mem _ (List.mem_cons_of_mem _ (List.mem_cons_of_mem _ (List.mem_map.2 ⟨p, hp, rfl⟩))))).1
    exact ⟨a, _, c, e⟩
  refine calls_of_p (args := [.pointer (some ⟨b, 0, none⟩), .agg (drV e0 (.slice va1 us.length vc1) (.slice va2 hs.length vc2) (.slice va3 ss.length vc3)).toArray]) ([b]) ([(b, row 79 [.slice a n c])]) (factR (.slice a n c) L :: (factC 2 (.slice va1 us.length vc1) us.length (us.map usW).flatten :: factC 65 (.slice va2 hs.length vc2) hs.length (hs.map hdV).flatten :: factC 4 (.slice va3 ss.length vc3) ss.length (ss.map seV).flatten :: us.map usF)) Tryz.func56 rfl rfl (ok_bl hb hu hfs) ?_
  refine J_seq ?_
  refine J_region ?_
  refine L_box rfl rfl rfl rfl rfl (fun b1 => ?_)
  refine L_nil ?_
  change J _ _ _ _
  refine J_seq ?_
  refine J_regionP ?_
  refine LP_one ?_
  refine L_v rfl rfl rfl (V_move rfl rfl) ?_
  refine L_nil ?_
  refine LP_one ?_
  refine L_v rfl rfl rfl (V_fieldAddr rfl rfl Tryz.underlying63 rfl sz3y rfl) ?_
  refine L_nil ?_
  refine LP_one ?_
  refine L_v rfl rfl rfl (V_load1 1 rfl rfl rfl Tryz.underlying3 rfl (by first | rfl | exact dg_get (by omega) (by omega))) ?_
  refine L_nil ?_
  refine LP_one ?_
  refine L_buildSlice (vs := [(0, vi (e0))]) (l := ints [e0]) rfl rfl rfl rfl rfl (bsI1 _) (fun b2 => ?_)
  refine L_nil ?_
  refine LP_out 0 rfl rfl rfl rfl rfl rfl tx68y rfl rfl (fun w1 hw => on_w b a n c L (some ⟨b2, 0, none⟩) 1 1 [e0] w1 (hw.at (i := 0) rfl) (fR hw 0 rfl) hcn (SlC.of_own hw (i := 2) (ks := ints [e0]) (r := []) rfl rfl 1) (by (try simp only [List.length_append, toksI_len, clT_len, enT_len, recT_len, usT1_len, vrT_len, hdT_len, seT_len, cI_len, lsI_len, lsV_len, lsH_len, lsS_len, vr1, hd1, se1, sg1, cmd1, fm_len, List.length_cons, List.length_nil, List.length_singleton]); omega)) (fun k hk => KretP_panic rfl (fun w' h => OutP.err (by rw [dir_toks]; exact (encE1 hk)) h.fr)) (fun M1 a1 n1 c1 hM1 hc1 hN1 => ?_)
  have hl1 := encTs_len hM1
  try simp only [List.length_append, toksI_len, clT_len, enT_len, recT_len, usT1_len, vrT_len, hdT_len, seT_len, cI_len, lsI_len, lsV_len, lsH_len, lsS_len, vr1, hd1, se1, sg1, cmd1, fm_len, List.length_cons, List.length_nil, List.length_singleton] at hl1
  refine LP_nil ?_
  change J _ _ _ _
  refine J_seq ?_
  refine J_regionP ?_
  refine LP_one ?_
  refine L_v rfl rfl rfl (V_move rfl rfl) ?_
  refine L_nil ?_
  refine LP_one ?_
  refine L_v rfl rfl rfl (V_fieldAddr rfl rfl Tryz.underlying63 rfl sz59y rfl) ?_
  refine L_nil ?_
  refine LP_one ?_
  refine L_v rfl rfl rfl (V_load1 1 rfl rfl rfl Tryz.underlying59 rfl (by first | rfl | exact dg_get (by omega) (by omega))) ?_
  refine L_nil ?_
  refine LP_one ?_
  refine L_v rfl rfl rfl (V_move rfl rfl) ?_
  refine L_nil ?_
  refine LP_one ?_
  refine L_v rfl rfl rfl (V_makeFunc rfl rfl rfl) ?_
  refine L_nil ?_
  refine LP_out 0 rfl rfl rfl rfl rfl rfl tx89y rfl rfl (fun w1 hw => lu_w b a1 n1 c1 (L ++ M1) va1 us.length vc1 (us.map usW) ((us.map Prod.fst).map usC.tk) 90 #[.pointer (some ⟨b, 0, none⟩)] #[] (us.map usF) w1 (hw.at (i := 0) rfl) (fR hw 0 rfl) hc1 (by intro e he; obtain ⟨y, _, rfl⟩ := List.mem_map.1 he; rfl) (by rw [List.length_map]) (us_1 hus) (by rw [List.length_map, List.length_map]) tx90y (fun f hf => by rcases List.mem_cons.1 hf with rfl | hf; exact facts0 hw rfl _ (List.mem_cons_self ..); exact facts0 hw rfl f (List.mem_cons_of_mem _ (List.mem_cons_of_mem _ (List.mem_cons_of_mem _ hf)))) (fun i hi W a' n' c' L' hb' hu' hc' hs' hf' => by rw [map_getD usC.tk (v0'', []) (by rw [List.length_map]; exact hi), us_get hi] at hs' ⊢; rw [us_getV hi]; exact ouser_w b a' n' c' L' _ (us.getD i ((v0'', []), .nilFunc)).1 W hb' hu' hc' (fun f hf => hf' f (by obtain rfl := List.mem_singleton.1 hf; exact List.mem_map.2 ⟨_, getD_mem hi, rfl⟩)) (by rw [usT1_len] at hs'; exact hs')) (by (try simp only [List.length_append, toksI_len, clT_len, enT_len, recT_len, usT1_len, vrT_len, hdT_len, seT_len, cI_len, lsI_len, lsV_len, lsH_len, lsS_len, vr1, hd1, se1, sg1, cmd1, fm_len, List.length_cons, List.length_nil, List.length_singleton]); omega)) (fun k hk => KretP_panic rfl (fun w' h => OutP.err (by rw [dir_toks]; exact (encE2 hM1 (encE1 hk))) h.fr)) (fun M2 a2 n2 c2 hM2 hc2 hN2 => ?_)
  have hl2 := encTs_len hM2
  try simp only [List.length_append, toksI_len, clT_len, enT_len, recT_len, usT1_len, vrT_len, hdT_len, seT_len, cI_len, lsI_len, lsV_len, lsH_len, lsS_len, vr1, hd1, se1, sg1, cmd1, fm_len, List.length_cons, List.length_nil, List.length_singleton] at hl2
  refine LP_nil ?_
  change J _ _ _ _
  refine J_seq ?_
  refine J_regionP ?_
  refine LP_one ?_
  refine L_v rfl rfl rfl (V_move rfl rfl) ?_
  refine L_nil ?_
  refine LP_one ?_
  refine L_v rfl rfl rfl (V_fieldAddr rfl rfl Tryz.underlying63 rfl sz60y rfl) ?_
  refine L_nil ?_
  refine LP_one ?_
  refine L_v rfl rfl rfl (V_load1 1 rfl rfl rfl Tryz.underlying60 rfl (by first | rfl | exact dg_get (by omega) (by omega))) ?_
  refine L_nil ?_
  refine LP_one ?_
  refine L_v rfl rfl rfl (V_move rfl rfl) ?_
  refine L_nil ?_
  refine LP_one ?_
  refine L_v rfl rfl rfl (V_makeFunc rfl rfl rfl) ?_
  refine L_nil ?_
  refine LP_out 0 rfl rfl rfl rfl rfl rfl tx91y rfl rfl (fun w1 hw => lh_w b a2 n2 c2 ((L ++ M1) ++ M2) va2 hs.length vc2 (hs.map hdV) (hs.map hdC.tk) 80 #[.pointer (some ⟨b, 0, none⟩)] #[] [] w1 (hw.at (i := 0) rfl) (fR hw 0 rfl) hc2 (by intro e he; obtain ⟨y, _, rfl⟩ := List.mem_map.1 he; rfl) (by rw [List.length_map]) hd_1 (by rw [List.length_map]) tx80y (fun f hf => by rcases List.mem_cons.1 hf with rfl | hf; exact facts0 hw rfl _ (List.mem_cons_of_mem _ (List.mem_cons_self ..)); cases hf) (fun i hi W a' n' c' L' hb' hu' hc' hs' hf' => by rw [map_getD hdC.tk (0, dz, dz) hi] at hs' ⊢; rw [map_getV hdV (0, dz, dz) hi]; exact ohead_w b a' n' c' L' _ W hb' hu' hc' hs') (by (try simp only [List.length_append, toksI_len, clT_len, enT_len, recT_len, usT1_len, vrT_len, hdT_len, seT_len, cI_len, lsI_len, lsV_len, lsH_len, lsS_len, vr1, hd1, se1, sg1, cmd1, fm_len, List.length_cons, List.length_nil, List.length_singleton]); omega)) (fun k hk => KretP_panic rfl (fun w' h => OutP.err (by rw [dir_toks]; exact (encE2 hM1 (encE2 hM2 (encE1 hk)))) h.fr)) (fun M3 a3 n3 c3 hM3 hc3 hN3 => ?_)
  have hl3 := encTs_len hM3
  try simp only [List.length_append, toksI_len, clT_len, enT_len, recT_len, usT1_len, vrT_len, hdT_len, seT_len, cI_len, lsI_len, lsV_len, lsH_len, lsS_len, vr1, hd1, se1, sg1, cmd1, fm_len, List.length_cons, List.length_nil, List.length_singleton] at hl3
  refine LP_nil ?_
  change J _ _ _ _
  refine J_regionP ?_
  refine LP_one ?_
  refine L_v rfl rfl rfl (V_move rfl rfl) ?_
  refine L_nil ?_
  refine LP_one ?_
  refine L_v rfl rfl rfl (V_fieldAddr rfl rfl Tryz.underlying63 rfl sz61y rfl) ?_
  refine L_nil ?_
  refine LP_one ?_
  refine L_v rfl rfl rfl (V_load1 1 rfl rfl rfl Tryz.underlying61 rfl (by first | rfl | exact dg_get (by omega) (by omega))) ?_
  refine L_nil ?_
  refine LP_one ?_
  refine L_v rfl rfl rfl (V_move rfl rfl) ?_
  refine L_nil ?_
  refine LP_one ?_
  refine L_v rfl rfl rfl (V_makeFunc rfl rfl rfl) ?_
  refine L_nil ?_
  refine LP_out 0 rfl rfl rfl rfl rfl rfl tx92y rfl rfl (fun w1 hw => ls_w b a3 n3 c3 (((L ++ M1) ++ M2) ++ M3) va3 ss.length vc3 (ss.map seV) (ss.map seC.tk) 93 #[.pointer (some ⟨b, 0, none⟩)] #[] [] w1 (hw.at (i := 0) rfl) (fR hw 0 rfl) hc3 (by intro e he; obtain ⟨y, _, rfl⟩ := List.mem_map.1 he; rfl) (by rw [List.length_map]) se_1 (by rw [List.length_map]) tx93y (fun f hf => by rcases List.mem_cons.1 hf with rfl | hf; exact facts0 hw rfl _ (List.mem_cons_of_mem _ (List.mem_cons_of_mem _ (List.mem_cons_self ..))); cases hf) (fun i hi W a' n' c' L' hb' hu' hc' hs' hf' => by rw [map_getD seC.tk (0, 0, 0, 0) hi] at hs' ⊢; rw [map_getV seV (0, 0, 0, 0) hi]; exact oses_w b a' n' c' L' _ W hb' hu' hc' hs') (by (try simp only [List.length_append, toksI_len, clT_len, enT_len, recT_len, usT1_len, vrT_len, hdT_len, seT_len, cI_len, lsI_len, lsV_len, lsH_len, lsS_len, vr1, hd1, se1, sg1, cmd1, fm_len, List.length_cons, List.length_nil, List.length_singleton]); omega)) (fun k hk => KretP_panic rfl (fun w' h => OutP.err (by rw [dir_toks]; exact (encE2 hM1 (encE2 hM2 (encE2 hM3 (hk))))) h.fr)) (fun M4 a4 n4 c4 hM4 hc4 hN4 => ?_)
  have hl4 := encTs_len hM4
  try simp only [List.length_append, toksI_len, clT_len, enT_len, recT_len, usT1_len, vrT_len, hdT_len, seT_len, cI_len, lsI_len, lsV_len, lsH_len, lsS_len, vr1, hd1, se1, sg1, cmd1, fm_len, List.length_cons, List.length_nil, List.length_singleton] at hl4
  refine LP_nil ?_
  change KretP _ _ _ Exit.normal _
  refine KretP_normal ?_
  refine KretP_plain ?_
  refine ret0 rfl rfl  ?_
  exact fun w' h => OutP.ok (by rw [dir_toks]; exact (enc2 hM1 (enc2 hM2 (enc2 hM3 (hM4))))) h.fr (h.at (i := 0) rfl) (by simp only [List.append_assoc]) (fR h 0 rfl) hc4 (hN4 _ _ (hN3 _ _ (hN2 _ _ (hN1 _ _ (Nw.refl _ _ _)))))

end Go.Proofs.YtfgcfjojpakpjaaGreat
