/- What the reference of layer 8 lays. -/
import Derived.Test.YtcdenfkbhefbbaaSx11
import Derived.Test.YtcdenfkbhefbbaaWPuts
set_option linter.unusedVariables false
set_option linter.unusedSimpArgs false
set_option maxRecDepth 100000
namespace Go.Proofs.Ytcdenfkbhefbbaa
open Go.Sx
def RM (b : Nat) (r : Except Int (List Int)) (z : OwnR × Value) : Mem := match r with
  | .ok L => (b, row 95 [ownV z.1 L.length, vi 0]) :: ownM 5 z.1 (dg L)
  | .error k => [(b, row 95 [z.2, vi k])]
def RC (r : Except Int (List Int)) (z : OwnR × Value) : Prop := match r with
  | .ok L => OwnC 1 z.1 L.length (dg L)
  | .error k => k ≠ 0
def RZ (r : Except Int (List Int)) (n : Nat) : Prop := match r with
  | .ok L => L.length + n ≤ 1099511627776
  | .error _ => True
theorem RZ.le {r : Except Int (List Int)} {m n : Nat} (h : RZ r m) (hn : n ≤ m) : RZ r n := by
  cases r with
  | ok L => show _ ≤ _; have : L.length + m ≤ _ := h; omega
  | error k => trivial
theorem RZ.step {r : Except Int (List Int)} {t : List Tok} {n : Nat} (h : RZ r (65545 * t.length + n)) : RZ (then2 r (encTs t)) n := by
  cases r with
  | error k => trivial
  | ok L =>
    cases h1 : encTs t with
    | error k => trivial
    | ok M =>
      have h2 := encTs_len h1
      have h3 : L.length + (65545 * t.length + n) ≤ 1099511627776 := h
      show (L ++ M).length + n ≤ 1099511627776
      rw [List.length_append]
      omega
theorem RZ.stepB {r : Except Int (List Int)} {t : List Tok} {m n : Nat} (h : RZ r (65545 * m + n)) (hb : ∀ M, encTs t = .ok M → M.length ≤ 65545 * m) : RZ (then2 r (encTs t)) n := by
  cases r with
  | error k => trivial
  | ok L =>
    cases h1 : encTs t with
    | error k => trivial
    | ok M =>
      have h2 := hb M h1
      have h3 : L.length + (65545 * m + n) ≤ 1099511627776 := h
      show (L ++ M).length + n ≤ 1099511627776
      rw [List.length_append]
      omega
/-- What is added: bytes, or an error. -/
def addF (u : Value) (x : Except Int (List Int)) : List Fact := match x with
  | .ok X => [factB u X]
  | .error _ => []
def addE (x : Except Int (List Int)) : Int := match x with
  | .ok _ => 0
  | .error k => k
abbrev Fm (fs : List Fact) (w : World) (m : Mem) : Prop := ∀ f ∈ fs, f.p w ∧ ∀ k, f.fp k → k < w.heap.size ∧ k ∉ m.map (·.1)
abbrev RP (w : World) (b : Nat) (r : Except Int (List Int)) (z : OwnR × Value) (r' : Except Int (List Int)) (val : Value) : Ending → World → Prop := RefP w (RM b r z) (RM b r') (RC r') val
theorem elr : ElemOf Try.prog 5 1 1 (.int .u8 0) := elem_of (by kernel_rfl) rfl
theorem encC_ok {x : Int} (h : 0 ≤ x ∧ x ≤ 2147483647) : encTs [.c x] = .ok (grp x) := by
  rw [encTs_one]
  simp only [encT]
  rw [if_pos h]
theorem encC_no {x : Int} (h : ¬ (0 ≤ x ∧ x ≤ 2147483647)) : encTs [.c x] = .error 1 := by
  rw [encTs_one]
  simp only [encT]
  rw [if_neg h]
theorem encL_ok {n : Nat} (h : n ≤ 4096) : encTs [.ln n] = encTs [.c (n : Int)] := (lnI n h).symm
theorem encL_no {n : Nat} (h : ¬ n ≤ 4096) : encTs [.ln n] = .error 2 := lnI_no h
theorem sz5f : (Try.prog.info? 5).map (·.size) = some 1 := by kernel_rfl
theorem sz48f : (Try.prog.info? 48).map (·.size) = some 1 := by kernel_rfl
theorem sz65f : (Try.prog.info? 65).map (·.size) = some 1 := by kernel_rfl
theorem tx66f : Txt Try.prog 66 := txt_of Try.func66 rfl (by kernel_rfl)
theorem tx80f : Txt Try.prog 80 := txt_of Try.func80 rfl (by kernel_rfl)
theorem tx81f : Txt Try.prog 81 := txt_of Try.func81 rfl (by kernel_rfl)
theorem tx84f : Txt Try.prog 84 := txt_of Try.func84 rfl (by kernel_rfl)

theorem radd_err (b : Nat) (k0 : Int) (v u : Value) (k : Int) (w : World) (hM : MemAt w [(b, row 95 [v, vi k0])]) (hk : k0 ≠ 0) :
    Calls Try.prog 81 #[.pointer (some ⟨b, 0, none⟩), u, vi k] w fun e w' => RefP w [(b, row 95 [v, vi k0])] (fun (_ : Unit) => [(b, row 95 [v, vi k0])]) (fun _ => True) (.tuple #[]) e w' := by
  refine calls_of (args := [.pointer (some ⟨b, 0, none⟩), u, vi k]) ([b]) ([(b, row 95 [v, vi k0])]) ([]) Try.func81 rfl rfl (okMem hM (by intro f hf; cases hf)) ?_
  refine J_seq ?_
  refine J_seq ?_
  refine J_region ?_
  refine L_v rfl rfl rfl (V_move rfl rfl) ?_
  refine L_v rfl rfl rfl (V_nilCheck rfl rfl) ?_
  refine L_v rfl rfl rfl (V_fieldAddr rfl rfl Try.underlying95 rfl sz48f rfl) ?_
  refine L_v rfl rfl rfl (V_load1 0 rfl rfl rfl Try.underlying48 rfl (by first | rfl | exact dg_get (by omega) (by omega))) ?_
  refine L_v rfl rfl rfl (V_neq rfl rfl rfl (decide_eq_true hk)) ?_
  refine L_nil ?_
  change J _ _ _ _
  refine J_true rfl ?_
  refine J_ret ?_
  change Kret _ _ _ Exit.ret _
  refine ret0 rfl rfl  ?_
  exact fun w' h => RefP.of () h rfl trivial (List.Sublist.refl _)

theorem radd_no (b : Nat) (q : OwnR) (n : Nat) (ks : List Value) (u : Value) (k : Int) (w : World) (hM : MemAt w ((b, row 95 [ownV q n, vi 0]) :: ownM 5 q ks)) (hk : k ≠ 0) :
    Calls Try.prog 81 #[.pointer (some ⟨b, 0, none⟩), u, vi k] w fun e w' => RefP w ((b, row 95 [ownV q n, vi 0]) :: ownM 5 q ks) (fun (_ : Unit) => [(b, row 95 [ownV q n, vi k])]) (fun _ => True) (.tuple #[]) e w' := by
  refine calls_of (args := [.pointer (some ⟨b, 0, none⟩), u, vi k]) (((b, row 95 [ownV q n, vi 0]) :: ownM 5 q ks).map (·.1)) ((b, row 95 [ownV q n, vi 0]) :: ownM 5 q ks) ([]) Try.func81 rfl rfl (okMem hM (by intro f hf; cases hf)) ?_
  refine J_seq ?_
  refine J_seq ?_
  refine J_region ?_
  refine L_v rfl rfl rfl (V_move rfl rfl) ?_
  refine L_v rfl rfl rfl (V_nilCheck rfl rfl) ?_
  refine L_v rfl rfl rfl (V_fieldAddr rfl rfl Try.underlying95 rfl sz48f rfl) ?_
  refine L_v rfl rfl rfl (V_load1 0 rfl rfl rfl Try.underlying48 rfl (by first | rfl | exact dg_get (by omega) (by omega))) ?_
  refine L_v rfl rfl rfl (V_neq rfl rfl rfl (by first | exact decide_eq_true hk | rfl)) ?_
  refine L_nil ?_
  change J _ _ _ _
  refine J_false rfl ?_
  refine J_skip ?_
  change J _ _ _ _
  refine J_seq ?_
  refine J_seq ?_
  refine J_region ?_
  refine L_v rfl rfl rfl (V_move rfl rfl) ?_
  refine L_v rfl rfl rfl (V_neq rfl rfl rfl (by first | exact decide_eq_true hk | rfl)) ?_
  refine L_nil ?_
  change J _ _ _ _
  refine J_true rfl ?_
  refine J_seq ?_
  refine J_region ?_
  refine L_v rfl rfl rfl (V_move rfl rfl) ?_
  refine L_v rfl rfl rfl (V_move rfl rfl) ?_
  refine L_v rfl rfl rfl (V_nilCheck rfl rfl) ?_
  refine L_v rfl rfl rfl (V_fieldAddr rfl rfl Try.underlying95 rfl sz48f rfl) ?_
  refine L_store1 0 rfl rfl rfl rfl rfl rfl rfl sz48f (by first | exact Nat.zero_lt_succ _ | exact (by decide : 1 < 2)) (by first | rfl | exact dg_set _ _ _) ?_
  refine L_nil ?_
  change J _ _ _ _
  refine J_ret ?_
  change Kret _ _ _ Exit.ret _
  refine ret0 rfl rfl  ?_
  exact fun w' h => RefP.of () h rfl trivial (List.Sublist.cons_cons _ (List.nil_sublist _))

theorem radd_ok (b : Nat) (q : OwnR) (L X : List Int) (u : Value) (w : World) (hM : MemAt w ((b, row 95 [ownV q L.length, vi 0]) :: ownM 5 q (dg L))) (hq : OwnC 1 q L.length (dg L)) (hfs : Fm [factB u X] w ((b, row 95 [ownV q L.length, vi 0]) :: ownM 5 q (dg L))) (hsz : L.length + X.length ≤ 1099511627776) :
    Calls Try.prog 81 #[.pointer (some ⟨b, 0, none⟩), u, vi 0] w fun e w' => RefP w ((b, row 95 [ownV q L.length, vi 0]) :: ownM 5 q (dg L)) (fun q' => (b, row 95 [ownV q' (L ++ X).length, vi 0]) :: ownM 5 q' (dg (L ++ X))) (fun q' => OwnC 1 q' (L ++ X).length (dg (L ++ X))) (.tuple #[]) e w' := by
  refine calls_of (args := [.pointer (some ⟨b, 0, none⟩), u, vi 0]) (((b, row 95 [ownV q L.length, vi 0]) :: ownM 5 q (dg L)).map (·.1)) ((b, row 95 [ownV q L.length, vi 0]) :: ownM 5 q (dg L)) ([factB u X]) Try.func81 rfl rfl (okMem hM hfs) ?_
  refine J_seq ?_
  refine J_seq ?_
  refine J_region ?_
  refine L_v rfl rfl rfl (V_move rfl rfl) ?_
  refine L_v rfl rfl rfl (V_nilCheck rfl rfl) ?_
  refine L_v rfl rfl rfl (V_fieldAddr rfl rfl Try.underlying95 rfl sz48f rfl) ?_
  refine L_v rfl rfl rfl (V_load1 0 rfl rfl rfl Try.underlying48 rfl (by first | rfl | exact dg_get (by omega) (by omega))) ?_
  refine L_v rfl rfl rfl (V_neq rfl rfl rfl rfl) ?_
  refine L_nil ?_
  change J _ _ _ _
  refine J_false rfl ?_
  refine J_skip ?_
  change J _ _ _ _
  refine J_seq ?_
  refine J_seq ?_
  refine J_region ?_
  refine L_v rfl rfl rfl (V_move rfl rfl) ?_
  refine L_v rfl rfl rfl (V_neq rfl rfl rfl rfl) ?_
  refine L_nil ?_
  change J _ _ _ _
  refine J_false rfl ?_
  refine J_skip ?_
  change J _ _ _ _
  refine J_region ?_
  refine L_v rfl rfl rfl (V_move rfl rfl) ?_
  refine L_v rfl rfl rfl (V_move rfl rfl) ?_
  refine L_v rfl rfl rfl (V_nilCheck rfl rfl) ?_
  refine L_v rfl rfl rfl (V_fieldAddr rfl rfl Try.underlying95 rfl sz65f rfl) ?_
  refine L_v rfl rfl rfl (V_load1 0 rfl rfl rfl Try.underlying65 rfl (by first | rfl | exact dg_get (by omega) (by omega))) ?_
  refine L_v rfl rfl rfl (V_move rfl rfl) ?_
  refine L_appL [(b, row 95 [ownV q L.length, vi 0])] q (dg L) (n' := (L ++ X).length) (ks' := dg (L ++ X)) rfl rfl rfl rfl rfl Try.underlying65 elr rfl hq (fun w1 hw => src_bytes' Try.underlying65 (fB hw 0 rfl) rfl) (List.length_append).symm (dg_append _ _).symm (by rw [List.length_append]; omega) (by rw [List.length_append]; omega) (fun q' hq' => ?_)
  refine L_v rfl rfl rfl (V_nilCheck rfl rfl) ?_
  refine L_v rfl rfl rfl (V_fieldAddr rfl rfl Try.underlying95 rfl sz65f rfl) ?_
  refine L_store1 0 rfl rfl rfl rfl rfl rfl rfl sz65f (by first | exact Nat.zero_lt_succ _ | exact (by decide : 1 < 2)) (by first | rfl | exact dg_set _ _ _) ?_
  refine L_nil ?_
  change Kret _ _ _ Exit.normal _
  refine Kret_normal ?_
  refine ret0 rfl rfl  ?_
  exact fun w' h => RefP.of q' h rfl hq' (List.Sublist.refl _)

def addL (x : Except Int (List Int)) : Nat := match x with
  | .ok X => X.length
  | .error _ => 0
def addG (x : Except Int (List Int)) : Prop := match x with
  | .ok _ => True
  | .error k => k ≠ 0
theorem radd_w (b : Nat) (r : Except Int (List Int)) (z : OwnR × Value) (x : Except Int (List Int)) (u : Value) (w : World) (hM : MemAt w (RM b r z)) (hC : RC r z) (hx : addG x) (hfs : Fm (addF u x) w (RM b r z)) (hsz : RZ r (addL x)) :
    Calls Try.prog 81 #[.pointer (some ⟨b, 0, none⟩), u, vi (addE x)] w (RP w b r z (then2 r x) (.tuple #[])) := by
  cases r with
  | error k0 =>
    refine (radd_err b k0 z.2 u (addE x) w hM hC).mono ?_
    rintro e w' ⟨_, _, he, hfr, hm, hk⟩
    exact ⟨z, hC, he, hfr, hm, hk⟩
  | ok L =>
    cases x with
    | error k =>
      refine (radd_no b z.1 L.length (dg L) u k w hM hx).mono ?_
      rintro e w' ⟨_, _, he, hfr, hm, hk⟩
      exact ⟨(none, ownV z.1 L.length), hx, he, hfr, hm, hk⟩
    | ok X =>
      refine (radd_ok b z.1 L X u w hM hC hfs hsz).mono ?_
      rintro e w' ⟨q', hq', he, hfr, hm, hk⟩
      exact ⟨(q', nilB), hq', he, hfr, hm, hk⟩

theorem rn_w (b : Nat) (r : Except Int (List Int)) (z : OwnR × Value) (x : Int) (w : World) (hM : MemAt w (RM b r z)) (hC : RC r z) (hsz : RZ r (65545 * (1))) :
    Calls Try.prog 66 #[.pointer (some ⟨b, 0, none⟩), vi x] w fun e w' => RP w b r z (then2 r (encTs ([.c x]))) (.tuple #[]) e w' := by
  refine calls_of (args := [.pointer (some ⟨b, 0, none⟩), vi x]) ((RM b r z).map (·.1)) (RM b r z) ([]) Try.func66 rfl rfl (okMem hM (by intro f hf; cases hf)) ?_
  by_cases hx : 0 ≤ x ∧ x ≤ 2147483647
  ·
    refine J_seq ?_
    refine J_region ?_
    refine L_v rfl rfl rfl (V_move rfl rfl) ?_
    refine L_callB rfl rfl rfl rfl rfl rfl tx80f (fun w1 hw => count_ok x w1 hx.1 hx.2) (fun g1 r1 c1 hl1 hc1 hr1 => ?_)
    refine L_v rfl rfl rfl (V_move rfl rfl) ?_
    refine L_v rfl rfl rfl (V_extract rfl rfl rfl) ?_
    refine L_v rfl rfl rfl (V_extract rfl rfl rfl) ?_
    refine L_v rfl rfl rfl (V_assign rfl rfl) ?_
    refine L_v rfl rfl rfl (V_assign rfl rfl) ?_
    refine L_nil ?_
    change J _ _ _ _
    refine J_region ?_
    refine L_v rfl rfl rfl (V_move rfl rfl) ?_
    refine L_v rfl rfl rfl (V_move rfl rfl) ?_
    refine L_v rfl rfl rfl (V_move rfl rfl) ?_
    refine L_toFact (RM b r z) (d := grp x) (g := g1) (r := r1) (U := 5) (n := (grp x).length) (c := c1) rfl rfl (fun hmay hgm => ?_)
    refine L_callRef (m1 := []) (m := RM b (r) z) (Ms := RM b (then2 r (encTs ([.c x])))) (C := RC (then2 r (encTs ([.c x])))) (val := .tuple #[]) rfl rfl rfl rfl rfl rfl tx81f rfl (fun w1 hw => (by rw [encC_ok hx]; exact radd_w b r z (.ok (grp x)) (.slice (some ⟨g1, 0, none⟩) (grp x).length c1) w1 hw.memM hC trivial hw.factsM (RZ.le hsz (by simp only [addL]; have := encTs_len (encC_ok hx); simpa using this)))) (fun z1 hC1 => ?_)
    refine L_nil ?_
    change Kret _ _ _ Exit.normal _
    refine Kret_normal ?_
    refine ret0 rfl rfl  ?_
    exact fun w' h => RefP.of z1 h rfl hC1 (List.Sublist.refl _)
  ·
    refine J_seq ?_
    refine J_region ?_
    refine L_v rfl rfl rfl (V_move rfl rfl) ?_
    refine L_callV rfl rfl rfl rfl rfl rfl tx80f (fun w1 hw => count_no _ w1 hx) ?_
    refine L_v rfl rfl rfl (V_move rfl rfl) ?_
    refine L_v rfl rfl rfl (V_extract rfl rfl rfl) ?_
    refine L_v rfl rfl rfl (V_extract rfl rfl rfl) ?_
    refine L_v rfl rfl rfl (V_assign rfl rfl) ?_
    refine L_v rfl rfl rfl (V_assign rfl rfl) ?_
    refine L_nil ?_
    change J _ _ _ _
    refine J_region ?_
    refine L_v rfl rfl rfl (V_move rfl rfl) ?_
    refine L_v rfl rfl rfl (V_move rfl rfl) ?_
    refine L_v rfl rfl rfl (V_move rfl rfl) ?_
    refine L_callRef (m1 := []) (m := RM b (r) z) (Ms := RM b (then2 r (encTs ([.c x])))) (C := RC (then2 r (encTs ([.c x])))) (val := .tuple #[]) rfl rfl rfl rfl rfl rfl tx81f rfl (fun w1 hw => (by rw [encC_no hx]; exact radd_w b r z (.error 1) nilB w1 hw.memM hC (by show (_ : Int) ≠ 0; decide) hw.factsM (RZ.le hsz (by exact Nat.zero_le _)))) (fun z1 hC1 => ?_)
    refine L_nil ?_
    change Kret _ _ _ Exit.normal _
    refine Kret_normal ?_
    refine ret0 rfl rfl  ?_
    exact fun w' h => RefP.of z1 h rfl hC1 (List.Sublist.refl _)

theorem rs_w (b : Nat) (r : Except Int (List Int)) (z : OwnR × Value) (x : ByteArray) (w : World) (hM : MemAt w (RM b r z)) (hC : RC r z) (hsz : RZ r (65545 * (1))) :
    Calls Try.prog 69 #[.pointer (some ⟨b, 0, none⟩), .string x] w fun e w' => RP w b r z (then2 r (encTs ([.s x]))) (.tuple #[]) e w' := by
  refine calls_of (args := [.pointer (some ⟨b, 0, none⟩), .string x]) ((RM b r z).map (·.1)) (RM b r z) ([]) Try.func69 rfl rfl (okMem hM (by intro f hf; cases hf)) ?_
  by_cases hx : x.size ≤ 65536
  ·
    refine J_seq ?_
    refine J_region ?_
    refine L_v rfl rfl rfl (V_move rfl rfl) ?_
    refine L_callB rfl rfl rfl rfl rfl rfl tx84f (fun w1 hw => refB_ok x w1 hx) (fun g1 r1 c1 hl1 hc1 hr1 => ?_)
    refine L_v rfl rfl rfl (V_move rfl rfl) ?_
    refine L_v rfl rfl rfl (V_extract rfl rfl rfl) ?_
    refine L_v rfl rfl rfl (V_extract rfl rfl rfl) ?_
    refine L_v rfl rfl rfl (V_assign rfl rfl) ?_
    refine L_v rfl rfl rfl (V_assign rfl rfl) ?_
    refine L_nil ?_
    change J _ _ _ _
    refine J_region ?_
    refine L_v rfl rfl rfl (V_move rfl rfl) ?_
    refine L_v rfl rfl rfl (V_move rfl rfl) ?_
    refine L_v rfl rfl rfl (V_move rfl rfl) ?_
    refine L_toFact (RM b r z) (d := grp x.size ++ bs x) (g := g1) (r := r1) (U := 5) (n := (grp x.size ++ bs x).length) (c := c1) rfl rfl (fun hmay hgm => ?_)
    refine L_callRef (m1 := []) (m := RM b (r) z) (Ms := RM b (then2 r (encTs ([.s x])))) (C := RC (then2 r (encTs ([.s x])))) (val := .tuple #[]) rfl rfl rfl rfl rfl rfl tx81f rfl (fun w1 hw => (by rw [encS_ok hx]; exact radd_w b r z (.ok (grp x.size ++ bs x)) (.slice (some ⟨g1, 0, none⟩) (grp x.size ++ bs x).length c1) w1 hw.memM hC trivial hw.factsM (RZ.le hsz (by simp only [addL]; have := encTs_len (encS_ok hx); simpa using this)))) (fun z1 hC1 => ?_)
    refine L_nil ?_
    change Kret _ _ _ Exit.normal _
    refine Kret_normal ?_
    refine ret0 rfl rfl  ?_
    exact fun w' h => RefP.of z1 h rfl hC1 (List.Sublist.refl _)
  ·
    refine J_seq ?_
    refine J_region ?_
    refine L_v rfl rfl rfl (V_move rfl rfl) ?_
    refine L_callV rfl rfl rfl rfl rfl rfl tx84f (fun w1 hw => refB_no _ w1 hx) ?_
    refine L_v rfl rfl rfl (V_move rfl rfl) ?_
    refine L_v rfl rfl rfl (V_extract rfl rfl rfl) ?_
    refine L_v rfl rfl rfl (V_extract rfl rfl rfl) ?_
    refine L_v rfl rfl rfl (V_assign rfl rfl) ?_
    refine L_v rfl rfl rfl (V_assign rfl rfl) ?_
    refine L_nil ?_
    change J _ _ _ _
    refine J_region ?_
    refine L_v rfl rfl rfl (V_move rfl rfl) ?_
    refine L_v rfl rfl rfl (V_move rfl rfl) ?_
    refine L_v rfl rfl rfl (V_move rfl rfl) ?_
    refine L_callRef (m1 := []) (m := RM b (r) z) (Ms := RM b (then2 r (encTs ([.s x])))) (C := RC (then2 r (encTs ([.s x])))) (val := .tuple #[]) rfl rfl rfl rfl rfl rfl tx81f rfl (fun w1 hw => (by rw [encS_no hx]; exact radd_w b r z (.error 2) nilB w1 hw.memM hC (by show (_ : Int) ≠ 0; decide) hw.factsM (RZ.le hsz (by exact Nat.zero_le _)))) (fun z1 hC1 => ?_)
    refine L_nil ?_
    change Kret _ _ _ Exit.normal _
    refine Kret_normal ?_
    refine ret0 rfl rfl  ?_
    exact fun w' h => RefP.of z1 h rfl hC1 (List.Sublist.refl _)

theorem rd_w (b : Nat) (r : Except Int (List Int)) (z : OwnR × Value) (x : Dg) (w : World) (hM : MemAt w (RM b r z)) (hC : RC r z) (hsz : RZ r (65545 * (1))) :
    Calls Try.prog 86 #[.pointer (some ⟨b, 0, none⟩), .agg (dg (l32 x)).toArray] w fun e w' => RP w b r z (then2 r (encTs ([.d x]))) (.tuple #[]) e w' := by
  refine calls_of (args := [.pointer (some ⟨b, 0, none⟩), .agg (dg (l32 x)).toArray]) ((RM b r z).map (·.1)) (RM b r z) ([]) Try.func86 rfl rfl (okMem hM (by intro f hf; cases hf)) ?_
  refine J_seq ?_
  refine J_region ?_
  refine L_box rfl rfl rfl rfl rfl (fun b0 => ?_)
  refine L_nil ?_
  change J _ _ _ _
  refine J_region ?_
  refine L_v rfl rfl rfl (V_move rfl rfl) ?_
  refine L_v rfl rfl rfl (V_sliceArr rfl rfl Try.underlying35 sz5f) ?_
  refine L_toFact (RM b r z) (d := l32 x) (g := b0) (r := []) (U := 35) (n := 32) (c := 32) rfl rfl (fun hmay hgm => ?_)
  refine L_callRef (m1 := []) (m := RM b (r) z) (Ms := RM b (then2 r (encTs ([.d x])))) (C := RC (then2 r (encTs ([.d x])))) (val := .tuple #[]) rfl rfl rfl rfl rfl rfl tx81f rfl (fun w1 hw => radd_w b r z (.ok (l32 x)) (.slice (some ⟨b0, 0, none⟩) 32 32) w1 hw.memM hC trivial hw.factsM (RZ.le hsz (by show 32 ≤ _; decide))) (fun z1 hC1 => ?_)
  refine L_nil ?_
  change Kret _ _ _ Exit.normal _
  refine Kret_normal ?_
  refine ret0 rfl rfl  ?_
  exact fun w' h => RefP.of z1 h rfl hC1 (List.Sublist.refl _)

theorem rmany_w (b : Nat) (r : Except Int (List Int)) (z : OwnR × Value) (n : Nat) (w : World) (hM : MemAt w (RM b r z)) (hC : RC r z) (hsz : RZ r (65545 * (1))) :
    Calls Try.prog 91 #[.pointer (some ⟨b, 0, none⟩), vi (n : Int)] w fun e w' => RP w b r z (then2 r (encTs ([.ln n]))) (.bool (decide (n ≤ 4096))) e w' := by
  refine calls_of (args := [.pointer (some ⟨b, 0, none⟩), vi (n : Int)]) ((RM b r z).map (·.1)) (RM b r z) ([]) Try.func91 rfl rfl (okMem hM (by intro f hf; cases hf)) ?_
  by_cases hx : n ≤ 4096
  ·
    refine J_seq ?_
    refine J_region ?_
    refine L_v rfl rfl rfl (V_assign rfl rfl) ?_
    refine L_nil ?_
    change J _ _ _ _
    refine J_seq ?_
    refine J_seq ?_
    refine J_region ?_
    refine L_v rfl rfl rfl (V_move rfl rfl) ?_
    refine L_v rfl rfl rfl (V_gtr rfl rfl rfl (by first | exact decide_eq_true (by omega) | exact decide_eq_false (by omega) | rfl)) ?_
    refine L_nil ?_
    change J _ _ _ _
    refine J_false rfl ?_
    refine J_skip ?_
    change J _ _ _ _
    refine J_seq ?_
    refine J_region ?_
    refine L_v rfl rfl rfl (V_move rfl rfl) ?_
    refine L_v rfl rfl rfl (V_move rfl rfl) ?_
    refine L_callRef (m1 := []) (m := RM b (r) z) (Ms := RM b (then2 r (encTs [.ln n]))) (C := RC (then2 r (encTs [.ln n]))) (val := .tuple #[]) rfl rfl rfl rfl rfl rfl tx66f rfl (fun w1 hw => (by rw [encL_ok hx]; exact rn_w b r z n w1 hw.memM hC (RZ.le hsz (by decide)))) (fun z1 hC1 => ?_)
    refine L_nil ?_
    change J _ _ _ _
    refine J_seq ?_
    refine J_region ?_
    refine L_v rfl rfl rfl (V_assign rfl rfl) ?_
    refine L_nil ?_
    change J _ _ _ _
    refine J_ret ?_
    change Kret _ _ _ Exit.ret _
    refine ret1 rfl rfl (RV_t rfl) ?_
    exact fun w' h => by rw [decide_eq_true hx]; exact RefP.of z1 h rfl hC1 (List.Sublist.refl _)
  ·
    refine J_seq ?_
    refine J_region ?_
    refine L_v rfl rfl rfl (V_assign rfl rfl) ?_
    refine L_nil ?_
    change J _ _ _ _
    refine J_seq ?_
    refine J_seq ?_
    refine J_region ?_
    refine L_v rfl rfl rfl (V_move rfl rfl) ?_
    refine L_v rfl rfl rfl (V_gtr rfl rfl rfl (by first | exact decide_eq_true (by omega) | exact decide_eq_false (by omega) | rfl)) ?_
    refine L_nil ?_
    change J _ _ _ _
    refine J_true rfl ?_
    refine J_seq ?_
    refine J_region ?_
    refine L_v rfl rfl rfl (V_move rfl rfl) ?_
    refine L_callRef (m1 := []) (m := RM b (r) z) (Ms := RM b (then2 r (encTs ([.ln n])))) (C := RC (then2 r (encTs ([.ln n])))) (val := .tuple #[]) rfl rfl rfl rfl rfl rfl tx81f rfl (fun w1 hw => (by rw [encL_no hx]; exact radd_w b r z (.error 2) nilB w1 hw.memM hC (by show (_ : Int) ≠ 0; decide) hw.factsM (RZ.le hsz (by exact Nat.zero_le _)))) (fun z1 hC1 => ?_)
    refine L_nil ?_
    change J _ _ _ _
    refine J_seq ?_
    refine J_region ?_
    refine L_v rfl rfl rfl (V_assign rfl rfl) ?_
    refine L_nil ?_
    change J _ _ _ _
    refine J_ret ?_
    change Kret _ _ _ Exit.ret _
    refine ret1 rfl rfl (RV_t rfl) ?_
    exact fun w' h => by rw [decide_eq_false hx]; exact RefP.of z1 h rfl hC1 (List.Sublist.refl _)

end Go.Proofs.Ytcdenfkbhefbbaa
