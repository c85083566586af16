/- What layer 8 lays: messages, each by its parts. -/
import Derived.Test.YtcdenfkbhefbbaaWPut2
set_option linter.unusedVariables false
set_option linter.unusedSimpArgs false
set_option maxRecDepth 100000
namespace Go.Proofs.Ytcdenfkbhefbbaa
open Go.Sx
def clF (v1 v2 : Value) (x : Cl) : List Fact := [factC 1 v1 x.1.length (ints x.1), factC 1 v2 x.2.length (ints x.2)]
abbrev Fx (fs : List Fact) (w : World) (b : Nat) : Prop := ∀ f ∈ fs, f.p w ∧ ∀ k, f.fp k → k < w.heap.size ∧ k ≠ b
theorem factsOwn {cx : Cx} {m : Mem} {fs : List Fact} {w : World} {i b g : Nat} {p q : Obj} (h : OkW cx m fs w) (hi : m[i]? = some (g, p)) (h0 : m[0]? = some (b, q)) (hne : i ≠ 0) : (factO g p).p w ∧ ∀ k, (factO g p).fp k → k < w.heap.size ∧ k ≠ b :=
  ⟨h.at hi, fun k hk => by
    obtain rfl : k = g := hk
    refine ⟨h.lt (List.mem_map.2 ⟨_, List.mem_of_getElem? hi, rfl⟩), fun e => ?_⟩
    subst e
    exact hne (key_unique' h.dis hi h0)⟩
theorem map_getD {α : Type} {l : List α} {i : Nat} (f : α → List Tok) (d : α) (h : i < l.length) : (l.map f).getD i [] = f (l.getD i d) := by
  rw [List.getD_eq_getElem?_getD, List.getElem?_map, List.getElem?_eq_getElem h, List.getD_eq_getElem?_getD, List.getElem?_eq_getElem h]
  rfl
theorem map_getV {α : Type} {l : List α} {i : Nat} (f : α → List Value) (d : α) (h : i < l.length) : (l.map f).getD i [] = f (l.getD i d) := by
  rw [List.getD_eq_getElem?_getD, List.getElem?_map, List.getElem?_eq_getElem h, List.getD_eq_getElem?_getD, List.getElem?_eq_getElem h]
  rfl
theorem fm_len {α : Type} (f : α → List Tok) (l : List α) : (l.map f).flatten.length = (l.flatMap f).length := rfl
theorem vr1 (x : Vr) : (vrC.tk x).length = 3 := rfl
theorem hd1 (x : Hd) : (hdC.tk x).length = 3 := rfl
theorem se1 (x : Se) : (seC.tk x).length = 4 := rfl
theorem sg1 (x : Sg) : (sgC.tk x).length = 4 := rfl
theorem cmd1 (x : Cmd) : (cmdC.tk x).length = 7 := rfl
theorem cI_len (l : List Int) : (l.flatMap cC.tk).length = l.length := by
  induction l with
  | nil => rfl
  | cons x l ih => rw [List.flatMap_cons, List.length_append, ih, List.length_cons, show (cC.tk x).length = 1 from rfl]; omega
theorem lsI_len (l : List Int) : ((ls cC).tk l).length = 1 + l.length := by
  show (_ :: l.flatMap cC.tk).length = _
  rw [List.length_cons, cI_len, Nat.add_comm]
theorem vrT_len (l : List Vr) : (l.flatMap vrC.tk).length = 3 * l.length := by
  induction l with
  | nil => rfl
  | cons x l ih => rw [List.flatMap_cons, List.length_append, ih, List.length_cons, show (vrC.tk x).length = 3 from rfl]; omega
theorem hdT_len (l : List Hd) : (l.flatMap hdC.tk).length = 3 * l.length := by
  induction l with
  | nil => rfl
  | cons x l ih => rw [List.flatMap_cons, List.length_append, ih, List.length_cons, show (hdC.tk x).length = 3 from rfl]; omega
theorem seT_len (l : List Se) : (l.flatMap seC.tk).length = 4 * l.length := by
  induction l with
  | nil => rfl
  | cons x l ih => rw [List.flatMap_cons, List.length_append, ih, List.length_cons, show (seC.tk x).length = 4 from rfl]; omega
theorem lsV_len (l : List Vr) : ((ls vrC).tk l).length = 1 + 3 * l.length := by
  show (_ :: l.flatMap vrC.tk).length = _
  rw [List.length_cons, vrT_len, Nat.add_comm]
theorem lsH_len (l : List Hd) : ((ls hdC).tk l).length = 1 + 3 * l.length := by
  show (_ :: l.flatMap hdC.tk).length = _
  rw [List.length_cons, hdT_len, Nat.add_comm]
theorem lsS_len (l : List Se) : ((ls seC).tk l).length = 1 + 4 * l.length := by
  show (_ :: l.flatMap seC.tk).length = _
  rw [List.length_cons, seT_len, Nat.add_comm]
theorem usT1_len (x : Us) : (usC.tk x).length = 2 + 3 * x.2.length := by
  show ([Tok.s x.1] ++ (.ln x.2.length :: x.2.flatMap vrC.tk)).length = _
  simp only [List.length_append, List.length_cons, List.length_nil, vrT_len]
  omega
theorem enT_len (x : En) : (enC.tk x).length = 12 + x.2.2.2.2.1.length + x.2.2.2.2.2.length := by
  show ([Tok.c x.1] ++ ([Tok.c x.2.1] ++ ([Tok.c x.2.2.1] ++ (cmdC.tk x.2.2.2.1 ++ clC.tk x.2.2.2.2)))).length = _
  simp only [List.length_append, List.length_singleton, clT_len, show (cmdC.tk x.2.2.2.1).length = 7 from rfl]
  omega
theorem recT_len (x : Rec) : (recC.tk x).length = 25 + x.2.2.2.1.2.2.2.2.1.length + x.2.2.2.1.2.2.2.2.2.length + x.2.2.2.2.2.1.2.2.1.1.length + x.2.2.2.2.2.1.2.2.1.2.length := by
  show ([Tok.c x.1] ++ ([Tok.c x.2.1] ++ ([Tok.c x.2.2.1] ++ (enC.tk x.2.2.2.1 ++ ([Tok.c x.2.2.2.2.1] ++ (([Tok.c x.2.2.2.2.2.1.1] ++ ([Tok.c x.2.2.2.2.2.1.2.1] ++ (clC.tk x.2.2.2.2.2.1.2.2.1 ++ [Tok.s x.2.2.2.2.2.1.2.2.2]))) ++ sgC.tk x.2.2.2.2.2.2)))))).length = _
  simp only [List.length_append, List.length_singleton, clT_len, enT_len, show (sgC.tk x.2.2.2.2.2.2).length = 4 from rfl]
  omega
theorem encL_le {n : Nat} {r : List Tok} {M : List Int} (h : encTs (.ln n :: r) = .ok M) : n ≤ 4096 := by
  by_cases h4 : n ≤ 4096
  · exact h4
  · rw [lnI_no h4] at h; cases h
theorem encA_ok {a b : List Tok} {M : List Int} (h : encTs (a ++ b) = .ok M) : ∃ A B, encTs a = .ok A ∧ encTs b = .ok B := by
  rw [encTs_app] at h
  obtain ⟨A, B, h1, h2, _⟩ := then2_ok h
  exact ⟨A, B, h1, h2⟩
theorem encTs_lenI {l : List Int} {M : List Int} (h : encTs ((ls cC).tk l) = .ok M) : M.length ≤ 65545 * 4097 := by
  have h1 := encTs_len h
  have h2 : l.length ≤ 4096 := encL_le h
  rw [lsI_len] at h1
  omega
theorem encC_le {x : Cl} {M : List Int} (h : encTs (clC.tk x) = .ok M) : x.1.length ≤ 4096 ∧ x.2.length ≤ 4096 := by
  obtain ⟨A, B, h1, h2⟩ := encA_ok (show encTs ((ls cC).tk x.1 ++ (ls cC).tk x.2) = _ from h)
  exact ⟨encL_le h1, encL_le h2⟩
theorem encTs_lenC {x : Cl} {M : List Int} (h : encTs (clC.tk x) = .ok M) : M.length ≤ 65545 * 8194 := by
  have h1 := encTs_len h
  have h2 := encC_le h
  rw [clT_len] at h1
  omega
theorem encE_le {x : En} {M : List Int} (h : encTs (enC.tk x) = .ok M) : x.2.2.2.2.1.length ≤ 4096 ∧ x.2.2.2.2.2.length ≤ 4096 := by
  obtain ⟨_, _, _, h2⟩ := encA_ok (show encTs ([Tok.c x.1] ++ ([Tok.c x.2.1] ++ ([Tok.c x.2.2.1] ++ (cmdC.tk x.2.2.2.1 ++ clC.tk x.2.2.2.2)))) = _ from h)
  obtain ⟨_, _, _, h2⟩ := encA_ok h2
  obtain ⟨_, _, _, h2⟩ := encA_ok h2
  obtain ⟨_, _, _, h2⟩ := encA_ok h2
  exact encC_le h2
theorem encTs_lenE {x : En} {M : List Int} (h : encTs (enC.tk x) = .ok M) : M.length ≤ 65545 * 8204 := by
  have h1 := encTs_len h
  have h2 := encE_le h
  rw [enT_len] at h1
  omega
theorem sz3y : (Try.prog.info? 3).map (·.size) = some 1 := by kernel_rfl
theorem sz9y : (Try.prog.info? 9).map (·.size) = some 1 := by kernel_rfl
theorem sz22y : (Try.prog.info? 22).map (·.size) = some 1 := by kernel_rfl
theorem sz24y : (Try.prog.info? 24).map (·.size) = some 2 := by kernel_rfl
theorem sz26y : (Try.prog.info? 26).map (·.size) = some 5 := by kernel_rfl
theorem sz31y : (Try.prog.info? 31).map (·.size) = some 1 := by kernel_rfl
theorem sz32y : (Try.prog.info? 32).map (·.size) = some 1 := by kernel_rfl
theorem sz33y : (Try.prog.info? 33).map (·.size) = some 1 := by kernel_rfl
theorem sz35y : (Try.prog.info? 35).map (·.size) = some 32 := by kernel_rfl
theorem sz37y : (Try.prog.info? 37).map (·.size) = some 38 := by kernel_rfl
theorem sz39y : (Try.prog.info? 39).map (·.size) = some 43 := by kernel_rfl
theorem sz41y : (Try.prog.info? 41).map (·.size) = some 65 := by kernel_rfl
theorem sz43y : (Try.prog.info? 43).map (·.size) = some 97 := by kernel_rfl
theorem tx55y : Txt Try.prog 55 := txt_of Try.func55 rfl (by kernel_rfl)
theorem tx56y : Txt Try.prog 56 := txt_of Try.func56 rfl (by kernel_rfl)
theorem tx57y : Txt Try.prog 57 := txt_of Try.func57 rfl (by kernel_rfl)
theorem tx58y : Txt Try.prog 58 := txt_of Try.func58 rfl (by kernel_rfl)
theorem tx59y : Txt Try.prog 59 := txt_of Try.func59 rfl (by kernel_rfl)
theorem tx72y : Txt Try.prog 72 := txt_of Try.func72 rfl (by kernel_rfl)
theorem tx73y : Txt Try.prog 73 := txt_of Try.func73 rfl (by kernel_rfl)
theorem tx74y : Txt Try.prog 74 := txt_of Try.func74 rfl (by kernel_rfl)
theorem tx75y : Txt Try.prog 75 := txt_of Try.func75 rfl (by kernel_rfl)
theorem tx77y : Txt Try.prog 77 := txt_of Try.func77 rfl (by kernel_rfl)
theorem tx78y : Txt Try.prog 78 := txt_of Try.func78 rfl (by kernel_rfl)

theorem ohead_w (b : Nat) (a : Option Addr) (n c : Nat) (L : List Int) (x : Hd) (w : World) (hb : w.heap[b]? = some (row 83 [.slice a n c])) (hu : SlR w (.slice a n c) L) (hcn : n ≤ c) (hsz : L.length + 65545 * (3) ≤ 1099511627776) :
    Calls Try.prog 77 #[.pointer (some ⟨b, 0, none⟩), .agg (hdV x).toArray] w fun e w' => OutP 83 110 w b (.slice a n c) L (encTs (hdC.tk x)) e w' := by
  have hul := hu.size
  refine calls_of_p (args := [.pointer (some ⟨b, 0, none⟩), .agg (hdV x).toArray]) ([b]) ([(b, row 83 [.slice a n c])]) (factR (.slice a n c) L :: []) Try.func77 rfl rfl (ok_bl hb hu (by intro f hf; simp at hf)) ?_
  refine J_seq ?_
  refine J_region ?_
  refine L_box rfl rfl rfl rfl rfl (fun b1 => ?_)
  refine L_nil ?_
  change J _ _ _ _
  refine J_seq ?_
  refine J_regionP ?_
  refine LP_one ?_
  refine L_v rfl rfl rfl (V_move rfl rfl) ?_
  refine L_nil ?_
  refine LP_one ?_
  refine L_v rfl rfl rfl (V_fieldAddr rfl rfl Try.underlying41 rfl sz3y rfl) ?_
  refine L_nil ?_
  refine LP_one ?_
  refine L_v rfl rfl rfl (V_load1 1 rfl rfl rfl Try.underlying3 rfl (by first | rfl | exact dg_get (by omega) (by omega))) ?_
  refine L_nil ?_
  refine LP_one ?_
  refine L_buildSlice (vs := [(0, vi (x.1))]) (l := ints [x.1]) rfl rfl rfl rfl rfl (bsI1 _) (fun b2 => ?_)
  refine L_nil ?_
  refine LP_out 0 rfl rfl rfl rfl rfl rfl tx55y rfl rfl (fun w1 hw => on_w b a n c L (some ⟨b2, 0, none⟩) 1 1 [x.1] w1 (hw.at (i := 0) rfl) (fR hw 0 rfl) hcn (SlC.of_own hw (i := 2) (ks := ints [x.1]) (r := []) rfl rfl 1) (by (try simp only [List.length_append, toksI_len, clT_len, enT_len, recT_len, usT1_len, vrT_len, hdT_len, seT_len, cI_len, lsI_len, lsV_len, lsH_len, lsS_len, vr1, hd1, se1, sg1, cmd1, fm_len, List.length_cons, List.length_nil, List.length_singleton]); omega)) (fun k hk => KretP_panic rfl (fun w' h => OutP.err (show encTs (toksI [x.1] ++ ([.d (x.2.1)] ++ ([.d (x.2.2)]))) = _ from encE1 hk) h.fr)) (fun M1 a1 n1 c1 hM1 hc1 hN1 => ?_)
  have hl1 := encTs_len hM1
  try simp only [List.length_append, toksI_len, clT_len, enT_len, recT_len, usT1_len, vrT_len, hdT_len, seT_len, cI_len, lsI_len, lsV_len, lsH_len, lsS_len, vr1, hd1, se1, sg1, cmd1, fm_len, List.length_cons, List.length_nil, List.length_singleton] at hl1
  refine LP_nil ?_
  change J _ _ _ _
  refine J_seq ?_
  refine J_regionP ?_
  refine LP_one ?_
  refine L_v rfl rfl rfl (V_move rfl rfl) ?_
  refine L_nil ?_
  refine LP_one ?_
  refine L_v rfl rfl rfl (V_fieldAddr rfl rfl Try.underlying41 rfl sz35y rfl) ?_
  refine L_nil ?_
  refine LP_one ?_
  refine L_v rfl rfl rfl (V_loadT 1 (vs := dg (l32 x.2.1)) rfl rfl rfl Try.underlying35 rfl sz35y rfl rfl) ?_
  refine L_nil ?_
  refine LP_out 0 rfl rfl rfl rfl rfl rfl tx78y rfl rfl (fun w1 hw => od_w b a1 n1 c1 (L ++ M1) x.2.1 w1 (hw.at (i := 0) rfl) (fR hw 0 rfl) hc1 (by (try simp only [List.length_append, toksI_len, clT_len, enT_len, recT_len, usT1_len, vrT_len, hdT_len, seT_len, cI_len, lsI_len, lsV_len, lsH_len, lsS_len, vr1, hd1, se1, sg1, cmd1, fm_len, List.length_cons, List.length_nil, List.length_singleton]); omega)) (fun k hk => KretP_panic rfl (fun w' h => OutP.err (show encTs (toksI [x.1] ++ ([.d (x.2.1)] ++ ([.d (x.2.2)]))) = _ from encE2 hM1 (encE1 hk)) h.fr)) (fun M2 a2 n2 c2 hM2 hc2 hN2 => ?_)
  have hl2 := encTs_len hM2
  try simp only [List.length_append, toksI_len, clT_len, enT_len, recT_len, usT1_len, vrT_len, hdT_len, seT_len, cI_len, lsI_len, lsV_len, lsH_len, lsS_len, vr1, hd1, se1, sg1, cmd1, fm_len, List.length_cons, List.length_nil, List.length_singleton] at hl2
  refine LP_nil ?_
  change J _ _ _ _
  refine J_regionP ?_
  refine LP_one ?_
  refine L_v rfl rfl rfl (V_move rfl rfl) ?_
  refine L_nil ?_
  refine LP_one ?_
  refine L_v rfl rfl rfl (V_fieldAddr rfl rfl Try.underlying41 rfl sz35y rfl) ?_
  refine L_nil ?_
  refine LP_one ?_
  refine L_v rfl rfl rfl (V_loadT 1 (vs := dg (l32 x.2.2)) rfl rfl rfl Try.underlying35 rfl sz35y rfl rfl) ?_
  refine L_nil ?_
  refine LP_out 0 rfl rfl rfl rfl rfl rfl tx78y rfl rfl (fun w1 hw => od_w b a2 n2 c2 ((L ++ M1) ++ M2) x.2.2 w1 (hw.at (i := 0) rfl) (fR hw 0 rfl) hc2 (by (try simp only [List.length_append, toksI_len, clT_len, enT_len, recT_len, usT1_len, vrT_len, hdT_len, seT_len, cI_len, lsI_len, lsV_len, lsH_len, lsS_len, vr1, hd1, se1, sg1, cmd1, fm_len, List.length_cons, List.length_nil, List.length_singleton]); omega)) (fun k hk => KretP_panic rfl (fun w' h => OutP.err (show encTs (toksI [x.1] ++ ([.d (x.2.1)] ++ ([.d (x.2.2)]))) = _ from encE2 hM1 (encE2 hM2 (hk))) h.fr)) (fun M3 a3 n3 c3 hM3 hc3 hN3 => ?_)
  have hl3 := encTs_len hM3
  try simp only [List.length_append, toksI_len, clT_len, enT_len, recT_len, usT1_len, vrT_len, hdT_len, seT_len, cI_len, lsI_len, lsV_len, lsH_len, lsS_len, vr1, hd1, se1, sg1, cmd1, fm_len, List.length_cons, List.length_nil, List.length_singleton] at hl3
  refine LP_nil ?_
  change KretP _ _ _ Exit.normal _
  refine KretP_normal ?_
  refine KretP_plain ?_
  refine ret0 rfl rfl  ?_
  exact fun w' h => OutP.ok (show encTs (toksI [x.1] ++ ([.d (x.2.1)] ++ ([.d (x.2.2)]))) = _ from enc2 hM1 (enc2 hM2 (hM3))) h.fr (h.at (i := 0) rfl) (by simp only [List.append_assoc]) (fR h 0 rfl) hc3 (hN3 _ _ (hN2 _ _ (hN1 _ _ (Nw.refl _ _ _))))

theorem osig_w (b : Nat) (a : Option Addr) (n c : Nat) (L : List Int) (x : Sg) (w : World) (hb : w.heap[b]? = some (row 83 [.slice a n c])) (hu : SlR w (.slice a n c) L) (hcn : n ≤ c) (hsz : L.length + 65545 * (4) ≤ 1099511627776) :
    Calls Try.prog 59 #[.pointer (some ⟨b, 0, none⟩), .agg (sgV x).toArray] w fun e w' => OutP 83 110 w b (.slice a n c) L (encTs (sgC.tk x)) e w' := by
  have hul := hu.size
  refine calls_of_p (args := [.pointer (some ⟨b, 0, none⟩), .agg (sgV x).toArray]) ([b]) ([(b, row 83 [.slice a n c])]) (factR (.slice a n c) L :: []) Try.func59 rfl rfl (ok_bl hb hu (by intro f hf; simp at hf)) ?_
  refine J_seq ?_
  refine J_region ?_
  refine L_box rfl rfl rfl rfl rfl (fun b1 => ?_)
  refine L_nil ?_
  change J _ _ _ _
  refine J_seq ?_
  refine J_regionP ?_
  refine LP_one ?_
  refine L_v rfl rfl rfl (V_move rfl rfl) ?_
  refine L_nil ?_
  refine LP_one ?_
  refine L_v rfl rfl rfl (V_fieldAddr rfl rfl Try.underlying43 rfl sz41y rfl) ?_
  refine L_nil ?_
  refine LP_one ?_
  refine L_v rfl rfl rfl (V_loadT 1 (vs := hdV x.1) rfl rfl rfl Try.underlying41 rfl sz41y rfl rfl) ?_
  refine L_nil ?_
  refine LP_out 0 rfl rfl rfl rfl rfl rfl tx77y rfl rfl (fun w1 hw => ohead_w b a n c L x.1 w1 (hw.at (i := 0) rfl) (fR hw 0 rfl) hcn (by (try simp only [List.length_append, toksI_len, clT_len, enT_len, recT_len, usT1_len, vrT_len, hdT_len, seT_len, cI_len, lsI_len, lsV_len, lsH_len, lsS_len, vr1, hd1, se1, sg1, cmd1, fm_len, List.length_cons, List.length_nil, List.length_singleton]); omega)) (fun k hk => KretP_panic rfl (fun w' h => OutP.err (show encTs (hdC.tk x.1 ++ ([.d (x.2)])) = _ from encE1 hk) h.fr)) (fun M1 a1 n1 c1 hM1 hc1 hN1 => ?_)
  have hl1 := encTs_len hM1
  try simp only [List.length_append, toksI_len, clT_len, enT_len, recT_len, usT1_len, vrT_len, hdT_len, seT_len, cI_len, lsI_len, lsV_len, lsH_len, lsS_len, vr1, hd1, se1, sg1, cmd1, fm_len, List.length_cons, List.length_nil, List.length_singleton] at hl1
  refine LP_nil ?_
  change J _ _ _ _
  refine J_regionP ?_
  refine LP_one ?_
  refine L_v rfl rfl rfl (V_move rfl rfl) ?_
  refine L_nil ?_
  refine LP_one ?_
  refine L_v rfl rfl rfl (V_fieldAddr rfl rfl Try.underlying43 rfl sz35y rfl) ?_
  refine L_nil ?_
  refine LP_one ?_
  refine L_v rfl rfl rfl (V_loadT 1 (vs := dg (l32 x.2)) rfl rfl rfl Try.underlying35 rfl sz35y rfl rfl) ?_
  refine L_nil ?_
  refine LP_out 0 rfl rfl rfl rfl rfl rfl tx78y rfl rfl (fun w1 hw => od_w b a1 n1 c1 (L ++ M1) x.2 w1 (hw.at (i := 0) rfl) (fR hw 0 rfl) hc1 (by (try simp only [List.length_append, toksI_len, clT_len, enT_len, recT_len, usT1_len, vrT_len, hdT_len, seT_len, cI_len, lsI_len, lsV_len, lsH_len, lsS_len, vr1, hd1, se1, sg1, cmd1, fm_len, List.length_cons, List.length_nil, List.length_singleton]); omega)) (fun k hk => KretP_panic rfl (fun w' h => OutP.err (show encTs (hdC.tk x.1 ++ ([.d (x.2)])) = _ from encE2 hM1 (hk)) h.fr)) (fun M2 a2 n2 c2 hM2 hc2 hN2 => ?_)
  have hl2 := encTs_len hM2
  try simp only [List.length_append, toksI_len, clT_len, enT_len, recT_len, usT1_len, vrT_len, hdT_len, seT_len, cI_len, lsI_len, lsV_len, lsH_len, lsS_len, vr1, hd1, se1, sg1, cmd1, fm_len, List.length_cons, List.length_nil, List.length_singleton] at hl2
  refine LP_nil ?_
  change KretP _ _ _ Exit.normal _
  refine KretP_normal ?_
  refine KretP_plain ?_
  refine ret0 rfl rfl  ?_
  exact fun w' h => OutP.ok (show encTs (hdC.tk x.1 ++ ([.d (x.2)])) = _ from enc2 hM1 (hM2)) h.fr (h.at (i := 0) rfl) (by simp only [List.append_assoc]) (fR h 0 rfl) hc2 (hN2 _ _ (hN1 _ _ (Nw.refl _ _ _)))

theorem ocmd_w (b : Nat) (a : Option Addr) (n c : Nat) (L : List Int) (x : Cmd) (w : World) (hb : w.heap[b]? = some (row 83 [.slice a n c])) (hu : SlR w (.slice a n c) L) (hcn : n ≤ c) (hsz : L.length + 65545 * (7) ≤ 1099511627776) :
    Calls Try.prog 72 #[.pointer (some ⟨b, 0, none⟩), .agg (cmdV x).toArray] w fun e w' => OutP 83 110 w b (.slice a n c) L (encTs (cmdC.tk x)) e w' := by
  have hul := hu.size
  refine calls_of_p (args := [.pointer (some ⟨b, 0, none⟩), .agg (cmdV x).toArray]) ([b]) ([(b, row 83 [.slice a n c])]) (factR (.slice a n c) L :: []) Try.func72 rfl rfl (ok_bl hb hu (by intro f hf; simp at hf)) ?_
  refine J_seq ?_
  refine J_region ?_
  refine L_box rfl rfl rfl rfl rfl (fun b1 => ?_)
  refine L_nil ?_
  change J _ _ _ _
  refine J_seq ?_
  refine J_regionP ?_
  refine LP_one ?_
  refine L_v rfl rfl rfl (V_move rfl rfl) ?_
  refine L_nil ?_
  refine LP_one ?_
  refine L_v rfl rfl rfl (V_fieldAddr rfl rfl Try.underlying37 rfl sz33y rfl) ?_
  refine L_nil ?_
  refine LP_one ?_
  refine L_v rfl rfl rfl (V_load1 1 rfl rfl rfl Try.underlying33 rfl (by first | rfl | exact dg_get (by omega) (by omega))) ?_
  refine L_nil ?_
  refine LP_one ?_
  refine L_v rfl rfl rfl (V_fieldAddr rfl rfl Try.underlying37 rfl sz3y rfl) ?_
  refine L_nil ?_
  refine LP_one ?_
  refine L_v rfl rfl rfl (V_load1 1 rfl rfl rfl Try.underlying3 rfl (by first | rfl | exact dg_get (by omega) (by omega))) ?_
  refine L_nil ?_
  refine LP_one ?_
  refine L_v rfl rfl rfl (V_fieldAddr rfl rfl Try.underlying37 rfl sz3y rfl) ?_
  refine L_nil ?_
  refine LP_one ?_
  refine L_v rfl rfl rfl (V_load1 1 rfl rfl rfl Try.underlying3 rfl (by first | rfl | exact dg_get (by omega) (by omega))) ?_
  refine L_nil ?_
  refine LP_one ?_
  refine L_buildSlice (vs := [(0, vi (x.1)), (1, vi (x.2.1)), (2, vi (x.2.2.1))]) (l := ints [x.1, x.2.1, x.2.2.1]) rfl rfl rfl rfl rfl (bsI3 _ _ _) (fun b2 => ?_)
  refine L_nil ?_
  refine LP_out 0 rfl rfl rfl rfl rfl rfl tx55y rfl rfl (fun w1 hw => on_w b a n c L (some ⟨b2, 0, none⟩) 3 3 [x.1, x.2.1, x.2.2.1] w1 (hw.at (i := 0) rfl) (fR hw 0 rfl) hcn (SlC.of_own hw (i := 2) (ks := ints [x.1, x.2.1, x.2.2.1]) (r := []) rfl rfl 3) (by (try simp only [List.length_append, toksI_len, clT_len, enT_len, recT_len, usT1_len, vrT_len, hdT_len, seT_len, cI_len, lsI_len, lsV_len, lsH_len, lsS_len, vr1, hd1, se1, sg1, cmd1, fm_len, List.length_cons, List.length_nil, List.length_singleton]); omega)) (fun k hk => KretP_panic rfl (fun w' h => OutP.err (show encTs (toksI [x.1, x.2.1, x.2.2.1] ++ ([.s (x.2.2.2.1)] ++ ([.s (x.2.2.2.2.1)] ++ (toksI [x.2.2.2.2.2.1] ++ ([.d (x.2.2.2.2.2.2)]))))) = _ from encE1 hk) h.fr)) (fun M1 a1 n1 c1 hM1 hc1 hN1 => ?_)
  have hl1 := encTs_len hM1
  try simp only [List.length_append, toksI_len, clT_len, enT_len, recT_len, usT1_len, vrT_len, hdT_len, seT_len, cI_len, lsI_len, lsV_len, lsH_len, lsS_len, vr1, hd1, se1, sg1, cmd1, fm_len, List.length_cons, List.length_nil, List.length_singleton] at hl1
  refine LP_nil ?_
  change J _ _ _ _
  refine J_seq ?_
  refine J_regionP ?_
  refine LP_one ?_
  refine L_v rfl rfl rfl (V_move rfl rfl) ?_
  refine L_nil ?_
  refine LP_one ?_
  refine L_v rfl rfl rfl (V_fieldAddr rfl rfl Try.underlying37 rfl sz9y rfl) ?_
  refine L_nil ?_
  refine LP_one ?_
  refine L_v rfl rfl rfl (V_load1 1 rfl rfl rfl Try.underlying9 rfl (by first | rfl | exact dg_get (by omega) (by omega))) ?_
  refine L_nil ?_
  refine LP_out 0 rfl rfl rfl rfl rfl rfl tx58y rfl rfl (fun w1 hw => os_w b a1 n1 c1 (L ++ M1) x.2.2.2.1 w1 (hw.at (i := 0) rfl) (fR hw 0 rfl) hc1 (by (try simp only [List.length_append, toksI_len, clT_len, enT_len, recT_len, usT1_len, vrT_len, hdT_len, seT_len, cI_len, lsI_len, lsV_len, lsH_len, lsS_len, vr1, hd1, se1, sg1, cmd1, fm_len, List.length_cons, List.length_nil, List.length_singleton]); omega)) (fun k hk => KretP_panic rfl (fun w' h => OutP.err (show encTs (toksI [x.1, x.2.1, x.2.2.1] ++ ([.s (x.2.2.2.1)] ++ ([.s (x.2.2.2.2.1)] ++ (toksI [x.2.2.2.2.2.1] ++ ([.d (x.2.2.2.2.2.2)]))))) = _ from encE2 hM1 (encE1 hk)) h.fr)) (fun M2 a2 n2 c2 hM2 hc2 hN2 => ?_)
  have hl2 := encTs_len hM2
  try simp only [List.length_append, toksI_len, clT_len, enT_len, recT_len, usT1_len, vrT_len, hdT_len, seT_len, cI_len, lsI_len, lsV_len, lsH_len, lsS_len, vr1, hd1, se1, sg1, cmd1, fm_len, List.length_cons, List.length_nil, List.length_singleton] at hl2
  refine LP_nil ?_
  change J _ _ _ _
  refine J_seq ?_
  refine J_regionP ?_
  refine LP_one ?_
  refine L_v rfl rfl rfl (V_move rfl rfl) ?_
  refine L_nil ?_
  refine LP_one ?_
  refine L_v rfl rfl rfl (V_fieldAddr rfl rfl Try.underlying37 rfl sz9y rfl) ?_
  refine L_nil ?_
  refine LP_one ?_
  refine L_v rfl rfl rfl (V_load1 1 rfl rfl rfl Try.underlying9 rfl (by first | rfl | exact dg_get (by omega) (by omega))) ?_
  refine L_nil ?_
  refine LP_out 0 rfl rfl rfl rfl rfl rfl tx58y rfl rfl (fun w1 hw => os_w b a2 n2 c2 ((L ++ M1) ++ M2) x.2.2.2.2.1 w1 (hw.at (i := 0) rfl) (fR hw 0 rfl) hc2 (by (try simp only [List.length_append, toksI_len, clT_len, enT_len, recT_len, usT1_len, vrT_len, hdT_len, seT_len, cI_len, lsI_len, lsV_len, lsH_len, lsS_len, vr1, hd1, se1, sg1, cmd1, fm_len, List.length_cons, List.length_nil, List.length_singleton]); omega)) (fun k hk => KretP_panic rfl (fun w' h => OutP.err (show encTs (toksI [x.1, x.2.1, x.2.2.1] ++ ([.s (x.2.2.2.1)] ++ ([.s (x.2.2.2.2.1)] ++ (toksI [x.2.2.2.2.2.1] ++ ([.d (x.2.2.2.2.2.2)]))))) = _ from encE2 hM1 (encE2 hM2 (encE1 hk))) h.fr)) (fun M3 a3 n3 c3 hM3 hc3 hN3 => ?_)
  have hl3 := encTs_len hM3
  try simp only [List.length_append, toksI_len, clT_len, enT_len, recT_len, usT1_len, vrT_len, hdT_len, seT_len, cI_len, lsI_len, lsV_len, lsH_len, lsS_len, vr1, hd1, se1, sg1, cmd1, fm_len, List.length_cons, List.length_nil, List.length_singleton] at hl3
  refine LP_nil ?_
  change J _ _ _ _
  refine J_seq ?_
  refine J_regionP ?_
  refine LP_one ?_
  refine L_v rfl rfl rfl (V_move rfl rfl) ?_
  refine L_nil ?_
  refine LP_one ?_
  refine L_v rfl rfl rfl (V_fieldAddr rfl rfl Try.underlying37 rfl sz3y rfl) ?_
  refine L_nil ?_
  refine LP_one ?_
  refine L_v rfl rfl rfl (V_load1 1 rfl rfl rfl Try.underlying3 rfl (by first | rfl | exact dg_get (by omega) (by omega))) ?_
  refine L_nil ?_
  refine LP_one ?_
  refine L_buildSlice (vs := [(0, vi (x.2.2.2.2.2.1))]) (l := ints [x.2.2.2.2.2.1]) rfl rfl rfl rfl rfl (bsI1 _) (fun b3 => ?_)
  refine L_nil ?_
  refine LP_out 0 rfl rfl rfl rfl rfl rfl tx55y rfl rfl (fun w1 hw => on_w b a3 n3 c3 (((L ++ M1) ++ M2) ++ M3) (some ⟨b3, 0, none⟩) 1 1 [x.2.2.2.2.2.1] w1 (hw.at (i := 0) rfl) (fR hw 0 rfl) hc3 (SlC.of_own hw (i := 3) (ks := ints [x.2.2.2.2.2.1]) (r := []) rfl rfl 1) (by (try simp only [List.length_append, toksI_len, clT_len, enT_len, recT_len, usT1_len, vrT_len, hdT_len, seT_len, cI_len, lsI_len, lsV_len, lsH_len, lsS_len, vr1, hd1, se1, sg1, cmd1, fm_len, List.length_cons, List.length_nil, List.length_singleton]); omega)) (fun k hk => KretP_panic rfl (fun w' h => OutP.err (show encTs (toksI [x.1, x.2.1, x.2.2.1] ++ ([.s (x.2.2.2.1)] ++ ([.s (x.2.2.2.2.1)] ++ (toksI [x.2.2.2.2.2.1] ++ ([.d (x.2.2.2.2.2.2)]))))) = _ from encE2 hM1 (encE2 hM2 (encE2 hM3 (encE1 hk)))) h.fr)) (fun M4 a4 n4 c4 hM4 hc4 hN4 => ?_)
  have hl4 := encTs_len hM4
  try simp only [List.length_append, toksI_len, clT_len, enT_len, recT_len, usT1_len, vrT_len, hdT_len, seT_len, cI_len, lsI_len, lsV_len, lsH_len, lsS_len, vr1, hd1, se1, sg1, cmd1, fm_len, List.length_cons, List.length_nil, List.length_singleton] at hl4
  refine LP_nil ?_
  change J _ _ _ _
  refine J_regionP ?_
  refine LP_one ?_
  refine L_v rfl rfl rfl (V_move rfl rfl) ?_
  refine L_nil ?_
  refine LP_one ?_
  refine L_v rfl rfl rfl (V_fieldAddr rfl rfl Try.underlying37 rfl sz35y rfl) ?_
  refine L_nil ?_
  refine LP_one ?_
  refine L_v rfl rfl rfl (V_loadT 1 (vs := dg (l32 x.2.2.2.2.2.2)) rfl rfl rfl Try.underlying35 rfl sz35y rfl rfl) ?_
  refine L_nil ?_
  refine LP_out 0 rfl rfl rfl rfl rfl rfl tx78y rfl rfl (fun w1 hw => od_w b a4 n4 c4 ((((L ++ M1) ++ M2) ++ M3) ++ M4) x.2.2.2.2.2.2 w1 (hw.at (i := 0) rfl) (fR hw 0 rfl) hc4 (by (try simp only [List.length_append, toksI_len, clT_len, enT_len, recT_len, usT1_len, vrT_len, hdT_len, seT_len, cI_len, lsI_len, lsV_len, lsH_len, lsS_len, vr1, hd1, se1, sg1, cmd1, fm_len, List.length_cons, List.length_nil, List.length_singleton]); omega)) (fun k hk => KretP_panic rfl (fun w' h => OutP.err (show encTs (toksI [x.1, x.2.1, x.2.2.1] ++ ([.s (x.2.2.2.1)] ++ ([.s (x.2.2.2.2.1)] ++ (toksI [x.2.2.2.2.2.1] ++ ([.d (x.2.2.2.2.2.2)]))))) = _ from encE2 hM1 (encE2 hM2 (encE2 hM3 (encE2 hM4 (hk))))) h.fr)) (fun M5 a5 n5 c5 hM5 hc5 hN5 => ?_)
  have hl5 := encTs_len hM5
  try simp only [List.length_append, toksI_len, clT_len, enT_len, recT_len, usT1_len, vrT_len, hdT_len, seT_len, cI_len, lsI_len, lsV_len, lsH_len, lsS_len, vr1, hd1, se1, sg1, cmd1, fm_len, List.length_cons, List.length_nil, List.length_singleton] at hl5
  refine LP_nil ?_
  change KretP _ _ _ Exit.normal _
  refine KretP_normal ?_
  refine KretP_plain ?_
  refine ret0 rfl rfl  ?_
  exact fun w' h => OutP.ok (show encTs (toksI [x.1, x.2.1, x.2.2.1] ++ ([.s (x.2.2.2.1)] ++ ([.s (x.2.2.2.2.1)] ++ (toksI [x.2.2.2.2.2.1] ++ ([.d (x.2.2.2.2.2.2)]))))) = _ from enc2 hM1 (enc2 hM2 (enc2 hM3 (enc2 hM4 (hM5))))) h.fr (h.at (i := 0) rfl) (by simp only [List.append_assoc]) (fR h 0 rfl) hc5 (hN5 _ _ (hN4 _ _ (hN3 _ _ (hN2 _ _ (hN1 _ _ (Nw.refl _ _ _))))))

theorem oc1_w (b : Nat) (a : Option Addr) (n c : Nat) (L : List Int) (x : Int) (bo : Nat) (w : World) (hb : w.heap[b]? = some (row 83 [.slice a n c])) (hu : SlR w (.slice a n c) L) (hcn : n ≤ c) (hbo : Fx [factO bo (row 81 [.pointer (some ⟨b, 0, none⟩)])] w b) (hsz : L.length + 65545 * (1) ≤ 1099511627776) :
    Calls Try.prog 74 #[vi x, .pointer (some ⟨bo, 0, none⟩)] w fun e w' => OutP 83 110 w b (.slice a n c) L (encTs ([.c x])) e w' := by
  have hul := hu.size
  refine calls_of_p (args := [vi x, .pointer (some ⟨bo, 0, none⟩)]) ([b]) ([(b, row 83 [.slice a n c])]) (factR (.slice a n c) L :: [factO bo (row 81 [.pointer (some ⟨b, 0, none⟩)])]) Try.func74 rfl rfl (ok_bl hb hu hbo) ?_
  refine J_regionP ?_
  refine LP_one ?_
  refine L_v rfl rfl rfl (V_load rfl rfl Try.underlying81 rfl (fun w hw => cell_of (hw.facts _ (List.mem_cons_of_mem _ (List.mem_singleton.2 rfl))).1 rfl)) ?_
  refine L_nil ?_
  refine LP_one ?_
  refine L_v rfl rfl rfl (V_move rfl rfl) ?_
  refine L_nil ?_
  refine LP_one ?_
  refine L_buildSlice (vs := [(0, vi (x))]) (l := ints [x]) rfl rfl rfl rfl rfl (bsI1 _) (fun b1 => ?_)
  refine L_nil ?_
  refine LP_out 0 rfl rfl rfl rfl rfl rfl tx55y rfl rfl (fun w1 hw => on_w b a n c L (some ⟨b1, 0, none⟩) 1 1 [x] w1 (hw.at (i := 0) rfl) (fR hw 0 rfl) hcn (SlC.of_own hw (i := 1) (ks := ints [x]) (r := []) rfl rfl 1) (by (try simp only [List.length_append, toksI_len, clT_len, enT_len, recT_len, usT1_len, vrT_len, hdT_len, seT_len, cI_len, lsI_len, lsV_len, lsH_len, lsS_len, vr1, hd1, se1, sg1, cmd1, fm_len, List.length_cons, List.length_nil, List.length_singleton]); omega)) (fun k hk => KretP_panic rfl (fun w' h => OutP.err (show encTs (toksI [x]) = _ from hk) h.fr)) (fun M1 a1 n1 c1 hM1 hc1 hN1 => ?_)
  have hl1 := encTs_len hM1
  try simp only [List.length_append, toksI_len, clT_len, enT_len, recT_len, usT1_len, vrT_len, hdT_len, seT_len, cI_len, lsI_len, lsV_len, lsH_len, lsS_len, vr1, hd1, se1, sg1, cmd1, fm_len, List.length_cons, List.length_nil, List.length_singleton] at hl1
  refine LP_nil ?_
  change KretP _ _ _ Exit.normal _
  refine KretP_normal ?_
  refine KretP_plain ?_
  refine ret0 rfl rfl  ?_
  exact fun w' h => OutP.ok (show encTs (toksI [x]) = _ from hM1) h.fr (h.at (i := 0) rfl) (by simp only [List.append_assoc]) (fR h 0 rfl) hc1 (hN1 _ _ (Nw.refl _ _ _))

theorem oc2_w (b : Nat) (a : Option Addr) (n c : Nat) (L : List Int) (x : Int) (bo : Nat) (w : World) (hb : w.heap[b]? = some (row 83 [.slice a n c])) (hu : SlR w (.slice a n c) L) (hcn : n ≤ c) (hbo : Fx [factO bo (row 81 [.pointer (some ⟨b, 0, none⟩)])] w b) (hsz : L.length + 65545 * (1) ≤ 1099511627776) :
    Calls Try.prog 75 #[vi x, .pointer (some ⟨bo, 0, none⟩)] w fun e w' => OutP 83 110 w b (.slice a n c) L (encTs ([.c x])) e w' := by
  have hul := hu.size
  refine calls_of_p (args := [vi x, .pointer (some ⟨bo, 0, none⟩)]) ([b]) ([(b, row 83 [.slice a n c])]) (factR (.slice a n c) L :: [factO bo (row 81 [.pointer (some ⟨b, 0, none⟩)])]) Try.func75 rfl rfl (ok_bl hb hu hbo) ?_
  refine J_regionP ?_
  refine LP_one ?_
  refine L_v rfl rfl rfl (V_load rfl rfl Try.underlying81 rfl (fun w hw => cell_of (hw.facts _ (List.mem_cons_of_mem _ (List.mem_singleton.2 rfl))).1 rfl)) ?_
  refine L_nil ?_
  refine LP_one ?_
  refine L_v rfl rfl rfl (V_move rfl rfl) ?_
  refine L_nil ?_
  refine LP_one ?_
  refine L_buildSlice (vs := [(0, vi (x))]) (l := ints [x]) rfl rfl rfl rfl rfl (bsI1 _) (fun b1 => ?_)
  refine L_nil ?_
  refine LP_out 0 rfl rfl rfl rfl rfl rfl tx55y rfl rfl (fun w1 hw => on_w b a n c L (some ⟨b1, 0, none⟩) 1 1 [x] w1 (hw.at (i := 0) rfl) (fR hw 0 rfl) hcn (SlC.of_own hw (i := 1) (ks := ints [x]) (r := []) rfl rfl 1) (by (try simp only [List.length_append, toksI_len, clT_len, enT_len, recT_len, usT1_len, vrT_len, hdT_len, seT_len, cI_len, lsI_len, lsV_len, lsH_len, lsS_len, vr1, hd1, se1, sg1, cmd1, fm_len, List.length_cons, List.length_nil, List.length_singleton]); omega)) (fun k hk => KretP_panic rfl (fun w' h => OutP.err (show encTs (toksI [x]) = _ from hk) h.fr)) (fun M1 a1 n1 c1 hM1 hc1 hN1 => ?_)
  have hl1 := encTs_len hM1
  try simp only [List.length_append, toksI_len, clT_len, enT_len, recT_len, usT1_len, vrT_len, hdT_len, seT_len, cI_len, lsI_len, lsV_len, lsH_len, lsS_len, vr1, hd1, se1, sg1, cmd1, fm_len, List.length_cons, List.length_nil, List.length_singleton] at hl1
  refine LP_nil ?_
  change KretP _ _ _ Exit.normal _
  refine KretP_normal ?_
  refine KretP_plain ?_
  refine ret0 rfl rfl  ?_
  exact fun w' h => OutP.ok (show encTs (toksI [x]) = _ from hM1) h.fr (h.at (i := 0) rfl) (by simp only [List.append_assoc]) (fR h 0 rfl) hc1 (hN1 _ _ (Nw.refl _ _ _))

theorem ocl_w0 (b : Nat) (a : Option Addr) (n c : Nat) (L : List Int) (va1 va2 : Option Addr) (vc1 vc2 : Nat) (x : Cl) (w : World) (hb : w.heap[b]? = some (row 83 [.slice a n c])) (hu : SlR w (.slice a n c) L) (hcn : n ≤ c) (hfs : Fx (clF (.slice va1 x.1.length vc1) (.slice va2 x.2.length vc2) x) w b) (hsz : L.length + 65545 * (8194) ≤ 1099511627776) :
    Calls Try.prog 57 #[.pointer (some ⟨b, 0, none⟩), .agg (clV (.slice va1 x.1.length vc1) (.slice va2 x.2.length vc2)).toArray] w fun e w' => OutP 83 110 w b (.slice a n c) L (encTs (clC.tk x)) e w' := by
  have hul := hu.size
  refine calls_of_p (args := [.pointer (some ⟨b, 0, none⟩), .agg (clV (.slice va1 x.1.length vc1) (.slice va2 x.2.length vc2)).toArray]) ([b]) ([(b, row 83 [.slice a n c])]) (factR (.slice a n c) L :: clF (.slice va1 x.1.length vc1) (.slice va2 x.2.length vc2) x) Try.func57 rfl rfl (ok_bl hb hu hfs) ?_
  refine J_seq ?_
  refine J_region ?_
  refine L_box rfl rfl rfl rfl rfl (fun b1 => ?_)
  refine L_box rfl rfl rfl rfl rfl (fun b2 => ?_)
  refine L_nil ?_
  change J _ _ _ _
  refine J_seq ?_
  refine J_regionP ?_
  refine LP_one ?_
  refine L_v rfl rfl rfl (V_load1 1 rfl rfl rfl Try.underlying81 rfl (by first | rfl | exact dg_get (by omega) (by omega))) ?_
  refine L_nil ?_
  refine LP_one ?_
  refine L_v rfl rfl rfl (V_fieldAddr rfl rfl Try.underlying24 rfl sz22y rfl) ?_
  refine L_nil ?_
  refine LP_one ?_
  refine L_v rfl rfl rfl (V_load1 2 rfl rfl rfl Try.underlying22 rfl (by first | rfl | exact dg_get (by omega) (by omega))) ?_
  refine L_nil ?_
  refine LP_one ?_
  refine L_v rfl rfl rfl (V_makeFunc rfl rfl rfl) ?_
  refine L_nil ?_
  refine LP_out 0 rfl rfl rfl rfl rfl rfl tx73y rfl rfl (fun w1 hw => li_w b a n c L va1 x.1.length vc1 x.1 (x.1.map cC.tk) 74 #[] #[.pointer (some ⟨b1, 0, none⟩)] [factO b1 (row 81 [.pointer (some ⟨b, 0, none⟩)])] w1 (hw.at (i := 0) rfl) (fR hw 0 rfl) hcn rfl (by rw [List.length_map]) tx74y (fun f hf => by rcases List.mem_cons.1 hf with rfl | hf; exact facts0 hw rfl _ (List.mem_cons_self ..); obtain rfl := List.mem_singleton.1 hf; exact factsOwn hw (i := 1) rfl rfl (by decide)) (fun i hi W a' n' c' L' hb' hu' hc' hs' hf' => by rw [map_getD cC.tk 0 (by omega)] at hs' ⊢; exact oc1_w b a' n' c' L' (x.1.getD i 0) b1 W hb' hu' hc' hf' hs') (fun h4 => (by (try simp only [List.length_append, toksI_len, clT_len, enT_len, recT_len, usT1_len, vrT_len, hdT_len, seT_len, cI_len, lsI_len, lsV_len, lsH_len, lsS_len, vr1, hd1, se1, sg1, cmd1, fm_len, List.length_cons, List.length_nil, List.length_singleton]); omega)) (by (try simp only [List.length_append, toksI_len, clT_len, enT_len, recT_len, usT1_len, vrT_len, hdT_len, seT_len, cI_len, lsI_len, lsV_len, lsH_len, lsS_len, vr1, hd1, se1, sg1, cmd1, fm_len, List.length_cons, List.length_nil, List.length_singleton]); omega)) (fun k hk => KretP_panic rfl (fun w' h => OutP.err (show encTs ((ls cC).tk x.1 ++ ((ls cC).tk x.2)) = _ from encE1 hk) h.fr)) (fun M1 a1 n1 c1 hM1 hc1 hN1 => ?_)
  have hl1 := encTs_lenI hM1
  try simp only [List.length_append, toksI_len, clT_len, enT_len, recT_len, usT1_len, vrT_len, hdT_len, seT_len, cI_len, lsI_len, lsV_len, lsH_len, lsS_len, vr1, hd1, se1, sg1, cmd1, fm_len, List.length_cons, List.length_nil, List.length_singleton] at hl1
  refine LP_nil ?_
  change J _ _ _ _
  refine J_regionP ?_
  refine LP_one ?_
  refine L_v rfl rfl rfl (V_load1 1 rfl rfl rfl Try.underlying81 rfl (by first | rfl | exact dg_get (by omega) (by omega))) ?_
  refine L_nil ?_
  refine LP_one ?_
  refine L_v rfl rfl rfl (V_fieldAddr rfl rfl Try.underlying24 rfl sz22y rfl) ?_
  refine L_nil ?_
  refine LP_one ?_
  refine L_v rfl rfl rfl (V_load1 2 rfl rfl rfl Try.underlying22 rfl (by first | rfl | exact dg_get (by omega) (by omega))) ?_
  refine L_nil ?_
  refine LP_one ?_
  refine L_v rfl rfl rfl (V_makeFunc rfl rfl rfl) ?_
  refine L_nil ?_
  refine LP_out 0 rfl rfl rfl rfl rfl rfl tx73y rfl rfl (fun w1 hw => li_w b a1 n1 c1 (L ++ M1) va2 x.2.length vc2 x.2 (x.2.map cC.tk) 75 #[] #[.pointer (some ⟨b1, 0, none⟩)] [factO b1 (row 81 [.pointer (some ⟨b, 0, none⟩)])] w1 (hw.at (i := 0) rfl) (fR hw 0 rfl) hc1 rfl (by rw [List.length_map]) tx75y (fun f hf => by rcases List.mem_cons.1 hf with rfl | hf; exact facts0 hw rfl _ (List.mem_cons_of_mem _ (List.mem_cons_self ..)); obtain rfl := List.mem_singleton.1 hf; exact factsOwn hw (i := 1) rfl rfl (by decide)) (fun i hi W a' n' c' L' hb' hu' hc' hs' hf' => by rw [map_getD cC.tk 0 (by omega)] at hs' ⊢; exact oc2_w b a' n' c' L' (x.2.getD i 0) b1 W hb' hu' hc' hf' hs') (fun h4 => (by (try simp only [List.length_append, toksI_len, clT_len, enT_len, recT_len, usT1_len, vrT_len, hdT_len, seT_len, cI_len, lsI_len, lsV_len, lsH_len, lsS_len, vr1, hd1, se1, sg1, cmd1, fm_len, List.length_cons, List.length_nil, List.length_singleton]); omega)) (by (try simp only [List.length_append, toksI_len, clT_len, enT_len, recT_len, usT1_len, vrT_len, hdT_len, seT_len, cI_len, lsI_len, lsV_len, lsH_len, lsS_len, vr1, hd1, se1, sg1, cmd1, fm_len, List.length_cons, List.length_nil, List.length_singleton]); omega)) (fun k hk => KretP_panic rfl (fun w' h => OutP.err (show encTs ((ls cC).tk x.1 ++ ((ls cC).tk x.2)) = _ from encE2 hM1 (hk)) h.fr)) (fun M2 a2 n2 c2 hM2 hc2 hN2 => ?_)
  have hl2 := encTs_lenI hM2
  try simp only [List.length_append, toksI_len, clT_len, enT_len, recT_len, usT1_len, vrT_len, hdT_len, seT_len, cI_len, lsI_len, lsV_len, lsH_len, lsS_len, vr1, hd1, se1, sg1, cmd1, fm_len, List.length_cons, List.length_nil, List.length_singleton] at hl2
  refine LP_nil ?_
  change KretP _ _ _ Exit.normal _
  refine KretP_normal ?_
  refine KretP_plain ?_
  refine ret0 rfl rfl  ?_
  exact fun w' h => OutP.ok (show encTs ((ls cC).tk x.1 ++ ((ls cC).tk x.2)) = _ from enc2 hM1 (hM2)) h.fr (h.at (i := 0) rfl) (by simp only [List.append_assoc]) (fR h 0 rfl) hc2 (hN2 _ _ (hN1 _ _ (Nw.refl _ _ _)))

theorem ocl_w (b : Nat) (a : Option Addr) (n c : Nat) (L : List Int) (v1 v2 : Value) (x : Cl) (w : World) (hb : w.heap[b]? = some (row 83 [.slice a n c])) (hu : SlR w (.slice a n c) L) (hcn : n ≤ c) (hfs : Fx (clF v1 v2 x) w b) (hsz : L.length + 65545 * (8194) ≤ 1099511627776) :
    Calls Try.prog 57 #[.pointer (some ⟨b, 0, none⟩), .agg (clV v1 v2).toArray] w fun e w' => OutP 83 110 w b (.slice a n c) L (encTs (clC.tk x)) e w' := by
  obtain ⟨va1, vc1, rfl⟩ := SlC.form (hfs _ (List.mem_cons_self ..)).1
  obtain ⟨va2, vc2, rfl⟩ := SlC.form (hfs _ (List.mem_cons_of_mem _ (List.mem_cons_self ..))).1
  exact ocl_w0 b a n c L va1 va2 vc1 vc2 x w hb hu hcn hfs hsz

theorem oent_w (b : Nat) (a : Option Addr) (n c : Nat) (L : List Int) (v1 v2 : Value) (x : En) (w : World) (hb : w.heap[b]? = some (row 83 [.slice a n c])) (hu : SlR w (.slice a n c) L) (hcn : n ≤ c) (hfs : Fx (clF v1 v2 x.2.2.2.2) w b) (hsz : L.length + 65545 * (8204) ≤ 1099511627776) :
    Calls Try.prog 56 #[.pointer (some ⟨b, 0, none⟩), .agg (enV x v1 v2).toArray] w fun e w' => OutP 83 110 w b (.slice a n c) L (encTs (enC.tk x)) e w' := by
  have hul := hu.size
  refine calls_of_p (args := [.pointer (some ⟨b, 0, none⟩), .agg (enV x v1 v2).toArray]) ([b]) ([(b, row 83 [.slice a n c])]) (factR (.slice a n c) L :: clF v1 v2 x.2.2.2.2) Try.func56 rfl rfl (ok_bl hb hu hfs) ?_
  refine J_seq ?_
  refine J_region ?_
  refine L_box rfl rfl rfl rfl rfl (fun b1 => ?_)
  refine L_nil ?_
  change J _ _ _ _
  refine J_seq ?_
  refine J_regionP ?_
  refine LP_one ?_
  refine L_v rfl rfl rfl (V_move rfl rfl) ?_
  refine L_nil ?_
  refine LP_one ?_
  refine L_v rfl rfl rfl (V_fieldAddr rfl rfl Try.underlying39 rfl sz3y rfl) ?_
  refine L_nil ?_
  refine LP_one ?_
  refine L_v rfl rfl rfl (V_load1 1 rfl rfl rfl Try.underlying3 rfl (by first | rfl | exact dg_get (by omega) (by omega))) ?_
  refine L_nil ?_
  refine LP_one ?_
  refine L_v rfl rfl rfl (V_fieldAddr rfl rfl Try.underlying39 rfl sz3y rfl) ?_
  refine L_nil ?_
  refine LP_one ?_
  refine L_v rfl rfl rfl (V_load1 1 rfl rfl rfl Try.underlying3 rfl (by first | rfl | exact dg_get (by omega) (by omega))) ?_
  refine L_nil ?_
  refine LP_one ?_
  refine L_v rfl rfl rfl (V_fieldAddr rfl rfl Try.underlying39 rfl sz32y rfl) ?_
  refine L_nil ?_
  refine LP_one ?_
  refine L_v rfl rfl rfl (V_load1 1 rfl rfl rfl Try.underlying32 rfl (by first | rfl | exact dg_get (by omega) (by omega))) ?_
  refine L_nil ?_
  refine LP_one ?_
  refine L_buildSlice (vs := [(0, vi (x.1)), (1, vi (x.2.1)), (2, vi (x.2.2.1))]) (l := ints [x.1, x.2.1, x.2.2.1]) rfl rfl rfl rfl rfl (bsI3 _ _ _) (fun b2 => ?_)
  refine L_nil ?_
  refine LP_out 0 rfl rfl rfl rfl rfl rfl tx55y rfl rfl (fun w1 hw => on_w b a n c L (some ⟨b2, 0, none⟩) 3 3 [x.1, x.2.1, x.2.2.1] w1 (hw.at (i := 0) rfl) (fR hw 0 rfl) hcn (SlC.of_own hw (i := 2) (ks := ints [x.1, x.2.1, x.2.2.1]) (r := []) rfl rfl 3) (by (try simp only [List.length_append, toksI_len, clT_len, enT_len, recT_len, usT1_len, vrT_len, hdT_len, seT_len, cI_len, lsI_len, lsV_len, lsH_len, lsS_len, vr1, hd1, se1, sg1, cmd1, fm_len, List.length_cons, List.length_nil, List.length_singleton]); omega)) (fun k hk => KretP_panic rfl (fun w' h => OutP.err (show encTs (toksI [x.1, x.2.1, x.2.2.1] ++ (cmdC.tk x.2.2.2.1 ++ (clC.tk x.2.2.2.2))) = _ from encE1 hk) h.fr)) (fun M1 a1 n1 c1 hM1 hc1 hN1 => ?_)
  have hl1 := encTs_len hM1
  try simp only [List.length_append, toksI_len, clT_len, enT_len, recT_len, usT1_len, vrT_len, hdT_len, seT_len, cI_len, lsI_len, lsV_len, lsH_len, lsS_len, vr1, hd1, se1, sg1, cmd1, fm_len, List.length_cons, List.length_nil, List.length_singleton] at hl1
  refine LP_nil ?_
  change J _ _ _ _
  refine J_seq ?_
  refine J_regionP ?_
  refine LP_one ?_
  refine L_v rfl rfl rfl (V_move rfl rfl) ?_
  refine L_nil ?_
  refine LP_one ?_
  refine L_v rfl rfl rfl (V_fieldAddr rfl rfl Try.underlying39 rfl sz37y rfl) ?_
  refine L_nil ?_
  refine LP_one ?_
  refine L_v rfl rfl rfl (V_loadT 1 (vs := cmdV x.2.2.2.1) rfl rfl rfl Try.underlying37 rfl sz37y rfl rfl) ?_
  refine L_nil ?_
  refine LP_out 0 rfl rfl rfl rfl rfl rfl tx72y rfl rfl (fun w1 hw => ocmd_w b a1 n1 c1 (L ++ M1) x.2.2.2.1 w1 (hw.at (i := 0) rfl) (fR hw 0 rfl) hc1 (by (try simp only [List.length_append, toksI_len, clT_len, enT_len, recT_len, usT1_len, vrT_len, hdT_len, seT_len, cI_len, lsI_len, lsV_len, lsH_len, lsS_len, vr1, hd1, se1, sg1, cmd1, fm_len, List.length_cons, List.length_nil, List.length_singleton]); omega)) (fun k hk => KretP_panic rfl (fun w' h => OutP.err (show encTs (toksI [x.1, x.2.1, x.2.2.1] ++ (cmdC.tk x.2.2.2.1 ++ (clC.tk x.2.2.2.2))) = _ from encE2 hM1 (encE1 hk)) h.fr)) (fun M2 a2 n2 c2 hM2 hc2 hN2 => ?_)
  have hl2 := encTs_len hM2
  try simp only [List.length_append, toksI_len, clT_len, enT_len, recT_len, usT1_len, vrT_len, hdT_len, seT_len, cI_len, lsI_len, lsV_len, lsH_len, lsS_len, vr1, hd1, se1, sg1, cmd1, fm_len, List.length_cons, List.length_nil, List.length_singleton] at hl2
  refine LP_nil ?_
  change J _ _ _ _
  refine J_regionP ?_
  refine LP_one ?_
  refine L_v rfl rfl rfl (V_move rfl rfl) ?_
  refine L_nil ?_
  refine LP_one ?_
  refine L_v rfl rfl rfl (V_fieldAddr rfl rfl Try.underlying39 rfl sz24y rfl) ?_
  refine L_nil ?_
  refine LP_one ?_
  refine L_v rfl rfl rfl (V_loadT 1 (vs := clV v1 v2) rfl rfl rfl Try.underlying24 rfl sz24y rfl rfl) ?_
  refine L_nil ?_
  refine LP_out 0 rfl rfl rfl rfl rfl rfl tx57y rfl rfl (fun w1 hw => ocl_w b a2 n2 c2 ((L ++ M1) ++ M2) v1 v2 x.2.2.2.2 w1 (hw.at (i := 0) rfl) (fR hw 0 rfl) hc2 (facts0 hw rfl) (by (try simp only [List.length_append, toksI_len, clT_len, enT_len, recT_len, usT1_len, vrT_len, hdT_len, seT_len, cI_len, lsI_len, lsV_len, lsH_len, lsS_len, vr1, hd1, se1, sg1, cmd1, fm_len, List.length_cons, List.length_nil, List.length_singleton]); omega)) (fun k hk => KretP_panic rfl (fun w' h => OutP.err (show encTs (toksI [x.1, x.2.1, x.2.2.1] ++ (cmdC.tk x.2.2.2.1 ++ (clC.tk x.2.2.2.2))) = _ from encE2 hM1 (encE2 hM2 (hk))) h.fr)) (fun M3 a3 n3 c3 hM3 hc3 hN3 => ?_)
  have hl3 := encTs_lenC hM3
  try simp only [List.length_append, toksI_len, clT_len, enT_len, recT_len, usT1_len, vrT_len, hdT_len, seT_len, cI_len, lsI_len, lsV_len, lsH_len, lsS_len, vr1, hd1, se1, sg1, cmd1, fm_len, List.length_cons, List.length_nil, List.length_singleton] at hl3
  refine LP_nil ?_
  change KretP _ _ _ Exit.normal _
  refine KretP_normal ?_
  refine KretP_plain ?_
  refine ret0 rfl rfl  ?_
  exact fun w' h => OutP.ok (show encTs (toksI [x.1, x.2.1, x.2.2.1] ++ (cmdC.tk x.2.2.2.1 ++ (clC.tk x.2.2.2.2))) = _ from enc2 hM1 (enc2 hM2 (hM3))) h.fr (h.at (i := 0) rfl) (by simp only [List.append_assoc]) (fR h 0 rfl) hc3 (hN3 _ _ (hN2 _ _ (hN1 _ _ (Nw.refl _ _ _))))

theorem rec_toks (x : Rec) : recC.tk x = toksI [x.1, x.2.1, x.2.2.1] ++ (enC.tk x.2.2.2.1 ++ (toksI [x.2.2.2.2.1, x.2.2.2.2.2.1.1, x.2.2.2.2.2.1.2.1] ++ (clC.tk x.2.2.2.2.2.1.2.2.1 ++ ([.s x.2.2.2.2.2.1.2.2.2] ++ sgC.tk x.2.2.2.2.2.2)))) := by
  show [Tok.c x.1] ++ ([Tok.c x.2.1] ++ ([Tok.c x.2.2.1] ++ (enC.tk x.2.2.2.1 ++ ([Tok.c x.2.2.2.2.1] ++ (([Tok.c x.2.2.2.2.2.1.1] ++ ([Tok.c x.2.2.2.2.2.1.2.1] ++ (clC.tk x.2.2.2.2.2.1.2.2.1 ++ [Tok.s x.2.2.2.2.2.1.2.2.2]))) ++ sgC.tk x.2.2.2.2.2.2))))) = _
  simp [toksI, List.append_assoc]
theorem orec_w (b : Nat) (a : Option Addr) (n c : Nat) (L : List Int) (v1 v2 v3 v4 : Value) (x : Rec) (w : World) (hb : w.heap[b]? = some (row 83 [.slice a n c])) (hu : SlR w (.slice a n c) L) (hcn : n ≤ c) (hfs : Fx (clF v1 v2 x.2.2.2.1.2.2.2.2 ++ clF v3 v4 x.2.2.2.2.2.1.2.2.1) w b) (hsz : L.length + 65545 * (16410) ≤ 1099511627776) :
    Calls Try.prog 42 #[.pointer (some ⟨b, 0, none⟩), .agg (recV x v1 v2 v3 v4).toArray] w fun e w' => OutP 83 110 w b (.slice a n c) L (encTs (recC.tk x)) e w' := by
  have hul := hu.size
  refine calls_of_p (args := [.pointer (some ⟨b, 0, none⟩), .agg (recV x v1 v2 v3 v4).toArray]) ([b]) ([(b, row 83 [.slice a n c])]) (factR (.slice a n c) L :: (clF v1 v2 x.2.2.2.1.2.2.2.2 ++ clF v3 v4 x.2.2.2.2.2.1.2.2.1)) Try.func42 rfl rfl (ok_bl hb hu hfs) ?_
  refine J_seq ?_
  refine J_region ?_
  refine L_box rfl rfl rfl rfl rfl (fun b1 => ?_)
  refine L_nil ?_
  change J _ _ _ _
  refine J_seq ?_
  refine J_regionP ?_
  refine LP_one ?_
  refine L_v rfl rfl rfl (V_move rfl rfl) ?_
  refine L_nil ?_
  refine LP_one ?_
  refine L_v rfl rfl rfl (V_fieldAddr rfl rfl Try.underlying45 rfl sz31y rfl) ?_
  refine L_nil ?_
  refine LP_one ?_
  refine L_v rfl rfl rfl (V_load1 1 rfl rfl rfl Try.underlying31 rfl (by first | rfl | exact dg_get (by omega) (by omega))) ?_
  refine L_nil ?_
  refine LP_one ?_
  refine L_v rfl rfl rfl (V_fieldAddr rfl rfl Try.underlying45 rfl sz3y rfl) ?_
  refine L_nil ?_
  refine LP_one ?_
  refine L_v rfl rfl rfl (V_load1 1 rfl rfl rfl Try.underlying3 rfl (by first | rfl | exact dg_get (by omega) (by omega))) ?_
  refine L_nil ?_
  refine LP_one ?_
  refine L_v rfl rfl rfl (V_fieldAddr rfl rfl Try.underlying45 rfl sz3y rfl) ?_
  refine L_nil ?_
  refine LP_one ?_
  refine L_v rfl rfl rfl (V_load1 1 rfl rfl rfl Try.underlying3 rfl (by first | rfl | exact dg_get (by omega) (by omega))) ?_
  refine L_nil ?_
  refine LP_one ?_
  refine L_buildSlice (vs := [(0, vi (x.1)), (1, vi (x.2.1)), (2, vi (x.2.2.1))]) (l := ints [x.1, x.2.1, x.2.2.1]) rfl rfl rfl rfl rfl (bsI3 _ _ _) (fun b2 => ?_)
  refine L_nil ?_
  refine LP_out 0 rfl rfl rfl rfl rfl rfl tx55y rfl rfl (fun w1 hw => on_w b a n c L (some ⟨b2, 0, none⟩) 3 3 [x.1, x.2.1, x.2.2.1] w1 (hw.at (i := 0) rfl) (fR hw 0 rfl) hcn (SlC.of_own hw (i := 2) (ks := ints [x.1, x.2.1, x.2.2.1]) (r := []) rfl rfl 3) (by (try simp only [List.length_append, toksI_len, clT_len, enT_len, recT_len, usT1_len, vrT_len, hdT_len, seT_len, cI_len, lsI_len, lsV_len, lsH_len, lsS_len, vr1, hd1, se1, sg1, cmd1, fm_len, List.length_cons, List.length_nil, List.length_singleton]); omega)) (fun k hk => KretP_panic rfl (fun w' h => OutP.err (by rw [rec_toks]; exact (encE1 hk)) h.fr)) (fun M1 a1 n1 c1 hM1 hc1 hN1 => ?_)
  have hl1 := encTs_len hM1
  try simp only [List.length_append, toksI_len, clT_len, enT_len, recT_len, usT1_len, vrT_len, hdT_len, seT_len, cI_len, lsI_len, lsV_len, lsH_len, lsS_len, vr1, hd1, se1, sg1, cmd1, fm_len, List.length_cons, List.length_nil, List.length_singleton] at hl1
  refine LP_nil ?_
  change J _ _ _ _
  refine J_seq ?_
  refine J_regionP ?_
  refine LP_one ?_
  refine L_v rfl rfl rfl (V_move rfl rfl) ?_
  refine L_nil ?_
  refine LP_one ?_
  refine L_v rfl rfl rfl (V_fieldAddr rfl rfl Try.underlying45 rfl sz39y rfl) ?_
  refine L_nil ?_
  refine LP_one ?_
  refine L_v rfl rfl rfl (V_loadT 1 (vs := enV x.2.2.2.1 v1 v2) rfl rfl rfl Try.underlying39 rfl sz39y rfl rfl) ?_
  refine L_nil ?_
  refine LP_out 0 rfl rfl rfl rfl rfl rfl tx56y rfl rfl (fun w1 hw => oent_w b a1 n1 c1 (L ++ M1) v1 v2 x.2.2.2.1 w1 (hw.at (i := 0) rfl) (fR hw 0 rfl) hc1 (fun f hf => facts0 hw rfl f (List.mem_append_left _ hf)) (by (try simp only [List.length_append, toksI_len, clT_len, enT_len, recT_len, usT1_len, vrT_len, hdT_len, seT_len, cI_len, lsI_len, lsV_len, lsH_len, lsS_len, vr1, hd1, se1, sg1, cmd1, fm_len, List.length_cons, List.length_nil, List.length_singleton]); omega)) (fun k hk => KretP_panic rfl (fun w' h => OutP.err (by rw [rec_toks]; exact (encE2 hM1 (encE1 hk))) h.fr)) (fun M2 a2 n2 c2 hM2 hc2 hN2 => ?_)
  have hl2 := encTs_lenE hM2
  try simp only [List.length_append, toksI_len, clT_len, enT_len, recT_len, usT1_len, vrT_len, hdT_len, seT_len, cI_len, lsI_len, lsV_len, lsH_len, lsS_len, vr1, hd1, se1, sg1, cmd1, fm_len, List.length_cons, List.length_nil, List.length_singleton] at hl2
  refine LP_nil ?_
  change J _ _ _ _
  refine J_seq ?_
  refine J_regionP ?_
  refine LP_one ?_
  refine L_v rfl rfl rfl (V_move rfl rfl) ?_
  refine L_nil ?_
  refine LP_one ?_
  refine L_v rfl rfl rfl (V_fieldAddr rfl rfl Try.underlying45 rfl sz3y rfl) ?_
  refine L_nil ?_
  refine LP_one ?_
  refine L_v rfl rfl rfl (V_load1 1 rfl rfl rfl Try.underlying3 rfl (by first | rfl | exact dg_get (by omega) (by omega))) ?_
  refine L_nil ?_
  refine LP_one ?_
  refine L_v rfl rfl rfl (V_fieldAddr rfl rfl Try.underlying45 rfl sz26y rfl) ?_
  refine L_nil ?_
  refine LP_one ?_
  refine L_v rfl rfl rfl (V_fieldAddr rfl rfl Try.underlying26 rfl sz3y rfl) ?_
  refine L_nil ?_
  refine LP_one ?_
  refine L_v rfl rfl rfl (V_load1 1 rfl rfl rfl Try.underlying3 rfl (by first | rfl | exact dg_get (by omega) (by omega))) ?_
  refine L_nil ?_
  refine LP_one ?_
  refine L_v rfl rfl rfl (V_fieldAddr rfl rfl Try.underlying45 rfl sz26y rfl) ?_
  refine L_nil ?_
  refine LP_one ?_
  refine L_v rfl rfl rfl (V_fieldAddr rfl rfl Try.underlying26 rfl sz3y rfl) ?_
  refine L_nil ?_
  refine LP_one ?_
  refine L_v rfl rfl rfl (V_load1 1 rfl rfl rfl Try.underlying3 rfl (by first | rfl | exact dg_get (by omega) (by omega))) ?_
  refine L_nil ?_
  refine LP_one ?_
  refine L_buildSlice (vs := [(0, vi (x.2.2.2.2.1)), (1, vi (x.2.2.2.2.2.1.1)), (2, vi (x.2.2.2.2.2.1.2.1))]) (l := ints [x.2.2.2.2.1, x.2.2.2.2.2.1.1, x.2.2.2.2.2.1.2.1]) rfl rfl rfl rfl rfl (bsI3 _ _ _) (fun b3 => ?_)
  refine L_nil ?_
  refine LP_out 0 rfl rfl rfl rfl rfl rfl tx55y rfl rfl (fun w1 hw => on_w b a2 n2 c2 ((L ++ M1) ++ M2) (some ⟨b3, 0, none⟩) 3 3 [x.2.2.2.2.1, x.2.2.2.2.2.1.1, x.2.2.2.2.2.1.2.1] w1 (hw.at (i := 0) rfl) (fR hw 0 rfl) hc2 (SlC.of_own hw (i := 3) (ks := ints [x.2.2.2.2.1, x.2.2.2.2.2.1.1, x.2.2.2.2.2.1.2.1]) (r := []) rfl rfl 3) (by (try simp only [List.length_append, toksI_len, clT_len, enT_len, recT_len, usT1_len, vrT_len, hdT_len, seT_len, cI_len, lsI_len, lsV_len, lsH_len, lsS_len, vr1, hd1, se1, sg1, cmd1, fm_len, List.length_cons, List.length_nil, List.length_singleton]); omega)) (fun k hk => KretP_panic rfl (fun w' h => OutP.err (by rw [rec_toks]; exact (encE2 hM1 (encE2 hM2 (encE1 hk)))) h.fr)) (fun M3 a3 n3 c3 hM3 hc3 hN3 => ?_)
  have hl3 := encTs_len hM3
  try simp only [List.length_append, toksI_len, clT_len, enT_len, recT_len, usT1_len, vrT_len, hdT_len, seT_len, cI_len, lsI_len, lsV_len, lsH_len, lsS_len, vr1, hd1, se1, sg1, cmd1, fm_len, List.length_cons, List.length_nil, List.length_singleton] at hl3
  refine LP_nil ?_
  change J _ _ _ _
  refine J_seq ?_
  refine J_regionP ?_
  refine LP_one ?_
  refine L_v rfl rfl rfl (V_move rfl rfl) ?_
  refine L_nil ?_
  refine LP_one ?_
  refine L_v rfl rfl rfl (V_fieldAddr rfl rfl Try.underlying45 rfl sz26y rfl) ?_
  refine L_nil ?_
  refine LP_one ?_
  refine L_v rfl rfl rfl (V_fieldAddr rfl rfl Try.underlying26 rfl sz24y rfl) ?_
  refine L_nil ?_
  refine LP_one ?_
  refine L_v rfl rfl rfl (V_loadT 1 (vs := clV v3 v4) rfl rfl rfl Try.underlying24 rfl sz24y rfl rfl) ?_
  refine L_nil ?_
  refine LP_out 0 rfl rfl rfl rfl rfl rfl tx57y rfl rfl (fun w1 hw => ocl_w b a3 n3 c3 (((L ++ M1) ++ M2) ++ M3) v3 v4 x.2.2.2.2.2.1.2.2.1 w1 (hw.at (i := 0) rfl) (fR hw 0 rfl) hc3 (fun f hf => facts0 hw rfl f (List.mem_append_right _ hf)) (by (try simp only [List.length_append, toksI_len, clT_len, enT_len, recT_len, usT1_len, vrT_len, hdT_len, seT_len, cI_len, lsI_len, lsV_len, lsH_len, lsS_len, vr1, hd1, se1, sg1, cmd1, fm_len, List.length_cons, List.length_nil, List.length_singleton]); omega)) (fun k hk => KretP_panic rfl (fun w' h => OutP.err (by rw [rec_toks]; exact (encE2 hM1 (encE2 hM2 (encE2 hM3 (encE1 hk))))) h.fr)) (fun M4 a4 n4 c4 hM4 hc4 hN4 => ?_)
  have hl4 := encTs_lenC hM4
  try simp only [List.length_append, toksI_len, clT_len, enT_len, recT_len, usT1_len, vrT_len, hdT_len, seT_len, cI_len, lsI_len, lsV_len, lsH_len, lsS_len, vr1, hd1, se1, sg1, cmd1, fm_len, List.length_cons, List.length_nil, List.length_singleton] at hl4
  refine LP_nil ?_
  change J _ _ _ _
  refine J_seq ?_
  refine J_regionP ?_
  refine LP_one ?_
  refine L_v rfl rfl rfl (V_move rfl rfl) ?_
  refine L_nil ?_
  refine LP_one ?_
  refine L_v rfl rfl rfl (V_fieldAddr rfl rfl Try.underlying45 rfl sz26y rfl) ?_
  refine L_nil ?_
  refine LP_one ?_
  refine L_v rfl rfl rfl (V_fieldAddr rfl rfl Try.underlying26 rfl sz9y rfl) ?_
  refine L_nil ?_
  refine LP_one ?_
  refine L_v rfl rfl rfl (V_load1 1 rfl rfl rfl Try.underlying9 rfl (by first | rfl | exact dg_get (by omega) (by omega))) ?_
  refine L_nil ?_
  refine LP_out 0 rfl rfl rfl rfl rfl rfl tx58y rfl rfl (fun w1 hw => os_w b a4 n4 c4 ((((L ++ M1) ++ M2) ++ M3) ++ M4) x.2.2.2.2.2.1.2.2.2 w1 (hw.at (i := 0) rfl) (fR hw 0 rfl) hc4 (by (try simp only [List.length_append, toksI_len, clT_len, enT_len, recT_len, usT1_len, vrT_len, hdT_len, seT_len, cI_len, lsI_len, lsV_len, lsH_len, lsS_len, vr1, hd1, se1, sg1, cmd1, fm_len, List.length_cons, List.length_nil, List.length_singleton]); omega)) (fun k hk => KretP_panic rfl (fun w' h => OutP.err (by rw [rec_toks]; exact (encE2 hM1 (encE2 hM2 (encE2 hM3 (encE2 hM4 (encE1 hk)))))) h.fr)) (fun M5 a5 n5 c5 hM5 hc5 hN5 => ?_)
  have hl5 := encTs_len hM5
  try simp only [List.length_append, toksI_len, clT_len, enT_len, recT_len, usT1_len, vrT_len, hdT_len, seT_len, cI_len, lsI_len, lsV_len, lsH_len, lsS_len, vr1, hd1, se1, sg1, cmd1, fm_len, List.length_cons, List.length_nil, List.length_singleton] at hl5
  refine LP_nil ?_
  change J _ _ _ _
  refine J_regionP ?_
  refine LP_one ?_
  refine L_v rfl rfl rfl (V_move rfl rfl) ?_
  refine L_nil ?_
  refine LP_one ?_
  refine L_v rfl rfl rfl (V_fieldAddr rfl rfl Try.underlying45 rfl sz43y rfl) ?_
  refine L_nil ?_
  refine LP_one ?_
  refine L_v rfl rfl rfl (V_loadT 1 (vs := sgV x.2.2.2.2.2.2) rfl rfl rfl Try.underlying43 rfl sz43y rfl rfl) ?_
  refine L_nil ?_
  refine LP_out 0 rfl rfl rfl rfl rfl rfl tx59y rfl rfl (fun w1 hw => osig_w b a5 n5 c5 (((((L ++ M1) ++ M2) ++ M3) ++ M4) ++ M5) x.2.2.2.2.2.2 w1 (hw.at (i := 0) rfl) (fR hw 0 rfl) hc5 (by (try simp only [List.length_append, toksI_len, clT_len, enT_len, recT_len, usT1_len, vrT_len, hdT_len, seT_len, cI_len, lsI_len, lsV_len, lsH_len, lsS_len, vr1, hd1, se1, sg1, cmd1, fm_len, List.length_cons, List.length_nil, List.length_singleton]); omega)) (fun k hk => KretP_panic rfl (fun w' h => OutP.err (by rw [rec_toks]; exact (encE2 hM1 (encE2 hM2 (encE2 hM3 (encE2 hM4 (encE2 hM5 (hk))))))) h.fr)) (fun M6 a6 n6 c6 hM6 hc6 hN6 => ?_)
  have hl6 := encTs_len hM6
  try simp only [List.length_append, toksI_len, clT_len, enT_len, recT_len, usT1_len, vrT_len, hdT_len, seT_len, cI_len, lsI_len, lsV_len, lsH_len, lsS_len, vr1, hd1, se1, sg1, cmd1, fm_len, List.length_cons, List.length_nil, List.length_singleton] at hl6
  refine LP_nil ?_
  change KretP _ _ _ Exit.normal _
  refine KretP_normal ?_
  refine KretP_plain ?_
  refine ret0 rfl rfl  ?_
  exact fun w' h => OutP.ok (by rw [rec_toks]; exact (enc2 hM1 (enc2 hM2 (enc2 hM3 (enc2 hM4 (enc2 hM5 (hM6))))))) h.fr (h.at (i := 0) rfl) (by simp only [List.append_assoc]) (fR h 0 rfl) hc6 (hN6 _ _ (hN5 _ _ (hN4 _ _ (hN3 _ _ (hN2 _ _ (hN1 _ _ (Nw.refl _ _ _)))))))

end Go.Proofs.Ytcdenfkbhefbbaa
