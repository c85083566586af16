/- What layer 8 lays: messages. -/
import Derived.Test.YtcdenfkbhefbbaaWPut
set_option linter.unusedVariables false
set_option linter.unusedSimpArgs false
set_option maxRecDepth 100000
namespace Go.Proofs.Ytcdenfkbhefbbaa
open Go.Sx
/-! ### What the messages are in memory -/
abbrev vi (n : Int) : Value := .int .i64 n
def cmdV (x : Cmd) : List Value := [vi x.1, vi x.2.1, vi x.2.2.1, .string x.2.2.2.1, .string x.2.2.2.2.1, vi x.2.2.2.2.2.1] ++ dg (l32 x.2.2.2.2.2.2)
def hdV (x : Hd) : List Value := vi x.1 :: (dg (l32 x.2.1) ++ dg (l32 x.2.2))
def sgV (x : Sg) : List Value := hdV x.1 ++ dg (l32 x.2)
def clV (v1 v2 : Value) : List Value := [v1, v2]
def enV (x : En) (v1 v2 : Value) : List Value := [vi x.1, vi x.2.1, vi x.2.2.1] ++ (cmdV x.2.2.2.1 ++ [v1, v2])
def snV (x : Sn) (v1 v2 : Value) : List Value := [vi x.1, vi x.2.1, v1, v2, .string x.2.2.2]
def recV (x : Rec) (v1 v2 v3 v4 : Value) : List Value := [vi x.1, vi x.2.1, vi x.2.2.1] ++ (enV x.2.2.2.1 v1 v2 ++ (vi x.2.2.2.2.1 :: (snV x.2.2.2.2.2.1 v3 v4 ++ sgV x.2.2.2.2.2.2)))
def vrV (x : Vr) : List Value := [vi x.1, vi x.2.1, .string x.2.2]
def usV (x : Us) (v : Value) : List Value := [.string x.1, v]
def seV (x : Se) : List Value := [vi x.1, vi x.2.1, vi x.2.2.1, vi x.2.2.2]
def drV (e : Int) (v1 v2 v3 : Value) : List Value := [vi e, v1, v2, v3]
theorem enc2 {a b : List Tok} {M N : List Int} (h1 : encTs a = .ok M) (h2 : encTs b = .ok N) : encTs (a ++ b) = .ok (M ++ N) := by rw [encTs_app, h1, h2]; rfl
theorem encE1 {a b : List Tok} {k : Int} (h : encTs a = .error k) : encTs (a ++ b) = .error k := by rw [encTs_app, h]; rfl
theorem encE2 {a b : List Tok} {M : List Int} {k : Int} (h1 : encTs a = .ok M) (h2 : encTs b = .error k) : encTs (a ++ b) = .error k := by rw [encTs_app, h1, h2]; rfl
theorem clT_len (x : Cl) : (clC.tk x).length = 2 + x.1.length + x.2.length := by
  show ((.ln x.1.length :: x.1.flatMap (fun n => [Tok.c n])) ++ (.ln x.2.length :: x.2.flatMap (fun n => [Tok.c n]))).length = _
  have h : ∀ l : List Int, (l.flatMap (fun n => [Tok.c n])).length = l.length := fun l => by induction l <;> simp_all
  simp only [List.length_append, List.length_cons, h]
  omega
theorem cl_toks (l : List Int) : (ls cC).tk l = .ln l.length :: toksI l := by
  show _ :: l.flatMap (fun n => [Tok.c n]) = _
  congr 1
  induction l with
  | nil => rfl
  | cons x l ih => rw [List.flatMap_cons, ih]; rfl
def factO (b : Nat) (o : Obj) : Fact := { fp := fun k => k = b, p := fun w => w.heap[b]? = some o, dep := fun w w' h hp => by rw [h b rfl]; exact hp }
/-- Elements, one behind the other. -/
theorem flat_get {sz : Nat} : ∀ {es : List (List Value)} {i : Nat} (j : Nat), (∀ e ∈ es, e.length = sz) → i < es.length → j < sz → es.flatten[i * sz + j]? = (es.getD i [])[j]?
  | [], i, j, _, h, _ => by simp at h
  | e :: es, 0, j, he, h, hj => by
    have := he e (List.mem_cons_self ..)
    rw [List.flatten_cons, Nat.zero_mul, Nat.zero_add, List.getElem?_append_left (by omega)]
    rfl
  | e :: es, i + 1, j, he, h, hj => by
    have h1 := he e (List.mem_cons_self ..)
    have h2 := flat_get (es := es) (i := i) j (fun x hx => he x (List.mem_cons_of_mem _ hx)) (by simpa using h) hj
    rw [List.flatten_cons, List.getElem?_append_right (by rw [h1, Nat.succ_mul]; omega), h1, show (i + 1) * sz + j - sz = i * sz + j by rw [Nat.succ_mul]; omega, h2]
    rfl
theorem getD_mem {α : Type} {l : List α} {i : Nat} {d : α} (h : i < l.length) : l.getD i d ∈ l := by
  rw [List.getD_eq_getElem?_getD, List.getElem?_eq_getElem h]
  exact List.getElem_mem h
theorem flat_len {sz : Nat} : ∀ {es : List (List Value)}, (∀ e ∈ es, e.length = sz) → es.flatten.length = es.length * sz
  | [], _ => by simp
  | e :: es, he => by
    rw [List.flatten_cons, List.length_append, he e (List.mem_cons_self ..), flat_len (fun x hx => he x (List.mem_cons_of_mem _ hx)), List.length_cons, Nat.succ_mul, Nat.add_comm]
theorem bsI1 (x : Int) (w : World) : (Instr.buildSlice 22 1 [(0, vi x)].toArray).run Try.prog w = .ok (.slice (some ⟨w.heap.size, 0, none⟩) 1 1) (w.alloc (row 3 (ints [x]))) := by kernel_rfl
theorem bsI2 (x y : Int) (w : World) : (Instr.buildSlice 22 2 [(0, vi x), (1, vi y)].toArray).run Try.prog w = .ok (.slice (some ⟨w.heap.size, 0, none⟩) 2 2) (w.alloc (row 3 (ints [x, y]))) := by kernel_rfl
theorem bsI3 (x y z : Int) (w : World) : (Instr.buildSlice 22 3 [(0, vi x), (1, vi y), (2, vi z)].toArray).run Try.prog w = .ok (.slice (some ⟨w.heap.size, 0, none⟩) 3 3) (w.alloc (row 3 (ints [x, y, z]))) := by kernel_rfl
theorem bsI4 (x y z u : Int) (w : World) : (Instr.buildSlice 22 4 [(0, vi x), (1, vi y), (2, vi z), (3, vi u)].toArray).run Try.prog w = .ok (.slice (some ⟨w.heap.size, 0, none⟩) 4 4) (w.alloc (row 3 (ints [x, y, z, u]))) := by kernel_rfl
/-- What a list lays. -/
theorem lnI (n : Nat) (h : n ≤ 4096) : encTs (toksI [(n : Int)]) = encTs [.ln n] := by
  show encTs [.c (n : Int)] = _
  rw [encTs_one, encTs_one]
  simp only [encT]
  rw [if_pos (by omega), if_pos h]
theorem encN_step {ts : List (List Tok)} {i : Nat} {n : Nat} {M N : List Int} (h : i < ts.length) (hM : encTs (.ln n :: (ts.take i).flatten) = .ok M) (hN : encTs (ts.getD i []) = .ok N) : encTs (.ln n :: (ts.take (i + 1)).flatten) = .ok (M ++ N) := by
  rw [take_s [] h, List.flatten_append, List.flatten_singleton, ← List.cons_append]
  exact enc2 hM hN
theorem encN_bad {ts : List (List Tok)} {i : Nat} {n : Nat} {M : List Int} {k : Int} (h : i < ts.length) (hM : encTs (.ln n :: (ts.take i).flatten) = .ok M) (hN : encTs (ts.getD i []) = .error k) : encTs (.ln n :: ts.flatten) = .error k := by
  have e : ts = ts.take i ++ (ts.getD i [] :: ts.drop (i + 1)) := by
    conv => lhs; rw [← List.take_append_drop i ts]
    congr 1
    rw [List.getD_eq_getElem?_getD, List.getElem?_eq_getElem h]
    exact List.drop_eq_getElem_cons h
  rw [e, List.flatten_append, List.flatten_cons, ← List.cons_append]
  exact encE2 hM (encE1 hN)
theorem lnI_no {n : Nat} {r : List Tok} (h : ¬ n ≤ 4096) : encTs (.ln n :: r) = .error 2 := by
  rw [encTs]
  simp only [encT]
  rw [if_neg h]
  rfl
theorem sumT {ts : List (List Tok)} {i : Nat} (h : i < ts.length) : (ts.take i).flatten.length + (ts.getD i []).length ≤ ts.flatten.length := by
  have e : ts = ts.take i ++ (ts.getD i [] :: ts.drop (i + 1)) := by
    conv => lhs; rw [← List.take_append_drop i ts]
    congr 1
    rw [List.getD_eq_getElem?_getD, List.getElem?_eq_getElem h]
    exact List.drop_eq_getElem_cons h
  conv => rhs; rw [e]
  rw [List.flatten_append, List.flatten_cons, List.length_append, List.length_append]
  omega
theorem ok_bl {nt : Nat} {w : World} {b : Nat} {a : Option Addr} {n c : Nat} {L : List Int} {fs : List Fact} (hb : w.heap[b]? = some (row 83 [.slice a n c])) (hu : SlR w (.slice a n c) L) (hfs : ∀ f ∈ fs, f.p w ∧ ∀ k, f.fp k → k < w.heap.size ∧ k ≠ b) :
    OkW { P := Try.prog, w0 := w, nt := nt, mods := [b] } [(b, row 83 [.slice a n c])] (factR (.slice a n c) L :: fs) w :=
  okM1 hb fun f hf => by
    rcases List.mem_cons.1 hf with rfl | hf
    · exact ⟨hu, fun k hk => ⟨factB_lt hu.toB k hk, hu.toB.apart hb (fun x h => by cases h) k hk⟩⟩
    · exact hfs f hf
/-- What is known of other blocks, as a call wants it. -/
theorem facts0 {cx : Cx} {m : Mem} {f0 : Fact} {fs : List Fact} {w : World} {b : Nat} {p : Obj} (h : OkW cx m (f0 :: fs) w) (hb : m[0]? = some (b, p)) : ∀ f ∈ fs, f.p w ∧ ∀ k, f.fp k → k < w.heap.size ∧ k ≠ b := fun f hf =>
  ⟨(h.facts f (List.mem_cons_of_mem _ hf)).1, fun k hk => ⟨((h.facts f (List.mem_cons_of_mem _ hf)).2 k hk).1, fun e => ((h.facts f (List.mem_cons_of_mem _ hf)).2 k hk).2 (by subst e; exact List.mem_map.2 ⟨_, List.mem_of_getElem? hb, rfl⟩)⟩⟩
theorem sz3x : (Try.prog.info? 3).map (·.size) = some 1 := by kernel_rfl
theorem tx55x : Txt Try.prog 55 := txt_of Try.func55 rfl (by kernel_rfl)

theorem li_w (b : Nat) (a : Option Addr) (n c : Nat) (L : List Int) (va : Option Addr) (vn vc : Nat) (xs : List Int) (ts : List (List Tok)) (F : FuncId) (first cap : Array Value) (fs : List Fact) (w : World) (hb : w.heap[b]? = some (row 83 [.slice a n c])) (hu : SlR w (.slice a n c) L) (hcn : n ≤ c) (hxs : xs.length = vn) (hts : ts.length = vn) (htx : Txt Try.prog F) (hfs : ∀ f ∈ factC 1 (.slice va vn vc) vn (ints xs) :: fs, f.p w ∧ ∀ k, f.fp k → k < w.heap.size ∧ k ≠ b) (hone : ∀ i : Nat, i < vn → ∀ (W : World) (a : Option Addr) (n c : Nat) (L : List Int), W.heap[b]? = some (row 83 [.slice a n c]) → SlR W (.slice a n c) L → n ≤ c → L.length + 65545 * (ts.getD i []).length ≤ 1099511627776 → (∀ f ∈ fs, f.p W ∧ ∀ k, f.fp k → k < W.heap.size ∧ k ≠ b) → Calls Try.prog F (first ++ #[vi (xs.getD i 0)] ++ cap) W (OutP 83 110 W b (.slice a n c) L (encTs (ts.getD i [])))) (hsz0 : vn ≤ 4096 → L.length + 65545 * (1 + ts.flatten.length) ≤ 1099511627776) (hsz1 : L.length + 65545 ≤ 1099511627776) :
    Calls Try.prog 73 #[.pointer (some ⟨b, 0, none⟩), .slice va vn vc, .func (.func F) first cap] w fun e w' => OutP 83 110 w b (.slice a n c) L (encTs (.ln vn :: ts.flatten)) e w' := by
  have hul := hu.size
  refine calls_of_p (args := [.pointer (some ⟨b, 0, none⟩), .slice va vn vc, .func (.func F) first cap]) ([b]) ([(b, row 83 [.slice a n c])]) (factR (.slice a n c) L :: factC 1 (.slice va vn vc) vn (ints xs) :: fs) Try.func73 rfl rfl (ok_bl hb hu hfs) ?_
  by_cases hv4 : vn ≤ 4096
  ·
    have hsz := hsz0 hv4
    refine J_seq ?_
    refine J_seq ?_
    refine J_region ?_
    refine L_v rfl rfl rfl (V_move rfl rfl) ?_
    refine L_v rfl rfl rfl (V_len rfl rfl Try.underlying22 rfl) ?_
    refine L_v rfl rfl rfl (V_gtr rfl rfl rfl (by first | exact decide_eq_true (by omega) | exact decide_eq_false (by omega) | rfl)) ?_
    refine L_nil ?_
    change J _ _ _ _
    refine J_false rfl ?_
    refine J_skip ?_
    change J _ _ _ _
    refine J_seq ?_
    refine J_regionP ?_
    refine LP_one ?_
    refine L_v rfl rfl rfl (V_move rfl rfl) ?_
    refine L_nil ?_
    refine LP_one ?_
    refine L_v rfl rfl rfl (V_move rfl rfl) ?_
    refine L_nil ?_
    refine LP_one ?_
    refine L_v rfl rfl rfl (V_len rfl rfl Try.underlying22 rfl) ?_
    refine L_nil ?_
    refine LP_one ?_
    refine L_buildSlice (vs := [(0, vi (vn : Int))]) (l := ints [(vn : Int)]) rfl rfl rfl rfl rfl (bsI1 _) (fun b1 => ?_)
    refine L_nil ?_
    refine LP_out 0 rfl rfl rfl rfl rfl rfl tx55x rfl rfl (fun w1 hw => on_w b a n c L (some ⟨b1, 0, none⟩) 1 1 [(vn : Int)] w1 (hw.at (i := 0) rfl) (fR hw 0 rfl) hcn (SlC.of_own hw (i := 1) (ks := ints [(vn : Int)]) (r := []) rfl rfl 1) (by show L.length + 65545 * 1 ≤ _; omega)) (fun k hk => KretP_panic rfl (fun w' h => OutP.err (encE1 (a := [.ln vn]) (by rw [← lnI vn hv4]; exact hk)) h.fr)) (fun M0 a0 n0 c0 hM0 hc0 hN0 => ?_)
    rw [lnI vn hv4] at hM0
    refine LP_nil ?_
    change J _ _ _ _
    refine J_seq ?_
    refine J_region ?_
    refine L_v rfl rfl rfl (V_move rfl rfl) ?_
    refine L_v rfl rfl rfl (V_len rfl rfl Try.underlying22 rfl) ?_
    refine L_v rfl rfl rfl (V_move rfl rfl) ?_
    refine L_nil ?_
    change J _ _ _ _
    refine J_block ?_
    refine J_loop (X := Nat × List Int × Option Addr × Nat × Nat) (fun x => { env := [(0, .pointer (some ⟨b, 0, none⟩)), (2, .func (.func F) first cap), (18, .slice va vn vc), (19, .int .i64 (vn : Int)), (20, .int .i64 (x.1 : Int))], mem := [(b, row 83 [.slice x.2.2.1 x.2.2.2.1 x.2.2.2.2])], facts := factR (.slice x.2.2.1 x.2.2.2.1 x.2.2.2.2) (L ++ x.2.1) :: factC 1 (.slice va vn vc) vn (ints xs) :: fs }) (fun x => x.1 ≤ vn ∧ encTs (.ln vn :: (ts.take x.1).flatten) = .ok x.2.1 ∧ x.2.2.2.1 ≤ x.2.2.2.2 ∧ Nw w (.slice a n c) L (.slice x.2.2.1 x.2.2.2.1 x.2.2.2.2) (L ++ x.2.1)) (fun x => vn - x.1) (0, M0, a0, n0, c0) ⟨Nat.zero_le _, hM0, hc0, hN0 _ _ (Nw.refl _ _ _)⟩ ⟨⟨rfl, rfl, rfl, rfl, rfl, trivial⟩, List.Sublist.cons_cons _ (List.nil_sublist _), fun f hf => hf, rfl⟩ ?_
    rintro ⟨i, M, a', n', c'⟩ ⟨hi, hM, hc', hN⟩
    simp only at hi hM hc' hN ⊢
    have hML := encTs_len hM
    rw [List.length_cons] at hML
    refine J_seq ?_
    refine J_region ?_
    refine L_v rfl rfl rfl (V_lss rfl rfl rfl (by first | exact decide_eq_true (by omega) | exact decide_eq_false (by omega) | rfl)) ?_
    refine L_nil ?_
    change J _ _ _ _
    refine J_seq ?_
    refine J_cond rfl (fun h1 => ?_) (fun h1 => ?_)
    ·
      first | (have h1 := of_decide_eq_true h1) | (have h1 := of_decide_eq_false h1) | skip
      refine J_skip ?_
      change J _ _ _ _
      refine J_seq ?_
      refine J_block ?_
      refine J_seq ?_
      refine J_region ?_
      refine L_v rfl rfl rfl (V_indexC rfl rfl rfl Try.underlying22 sz3x (fun w hw => fC hw 1 rfl) (by omega) (by omega)) ?_
      refine L_v rfl rfl rfl (V_loadC rfl rfl Try.underlying3 rfl (fun w hw => fC hw 1 rfl) (ints_get (by omega))) ?_
      refine L_v rfl rfl rfl (V_assign rfl rfl) ?_
      refine L_nil ?_
      change J _ _ _ _
      refine J_regionP ?_
      refine LP_one ?_
      refine L_v rfl rfl rfl (V_move rfl rfl) ?_
      refine L_nil ?_
      refine LP_one ?_
      refine L_v rfl rfl rfl (V_move rfl rfl) ?_
      refine L_nil ?_
      refine LP_out 0 rfl rfl rfl rfl rfl rfl htx rfl rfl (fun w1 hw => hone i (by omega) w1 a' n' c' (L ++ M) (hw.at (i := 0) rfl) (fR hw 0 rfl) hc' (by have := sumT (ts := ts) (i := i) (by omega); rw [List.length_append]; omega) (fun f hf => facts0 hw rfl f (List.mem_cons_of_mem _ hf))) (fun k hk => KretP_panic rfl (fun w' h => OutP.err (encN_bad (by omega) hM hk) h.fr)) (fun M1 a1 n1 c1 hM1 hc1 hN1 => ?_)
      refine LP_nil ?_
      change J _ _ _ _
      refine J_region ?_
      refine L_v rfl rfl rfl (V_add rfl rfl rfl (by first | exact Go.IntWalk.i64_in _ (by omega) | rfl)) ?_
      refine L_v rfl rfl rfl (V_move rfl rfl) ?_
      refine L_nil ?_
      exact ⟨(i + 1, M ++ M1, a1, n1, c1), ⟨by show i + 1 ≤ vn; omega, encN_step (by omega) hM hM1, hc1, by have := hN1 _ _ hN; rwa [List.append_assoc] at this⟩, by show vn - (i + 1) < vn - i; omega, ⟨rfl, rfl, rfl, rfl, rfl, trivial⟩, (List.Sublist.refl _), (by rw [← List.append_assoc]; exact fun f hf => hf), rfl⟩
    ·
      first | (have h1 := of_decide_eq_true h1) | (have h1 := of_decide_eq_false h1) | skip
      refine J_exit ?_
      change KretP _ _ _ Exit.normal _
      refine KretP_normal ?_
      refine KretP_plain ?_
      refine ret0 rfl rfl  ?_
      obtain rfl : i = vn := by omega
      rw [List.take_of_length_le (by omega)] at hM
      exact fun w' h => OutP.ok hM h.fr (h.at (i := 0) rfl) rfl (fR h 0 rfl) hc' hN
  ·
    refine J_seq ?_
    refine J_seq ?_
    refine J_region ?_
    refine L_v rfl rfl rfl (V_move rfl rfl) ?_
    refine L_v rfl rfl rfl (V_len rfl rfl Try.underlying22 rfl) ?_
    refine L_v rfl rfl rfl (V_gtr rfl rfl rfl (by first | exact decide_eq_true (by omega) | exact decide_eq_false (by omega) | rfl)) ?_
    refine L_nil ?_
    change J _ _ _ _
    refine J_true rfl ?_
    refine J_regionP ?_
    refine LP_one ?_
    refine L_v rfl rfl rfl (V_build (vs := [(0, .int .i64 2)]) rfl rfl (bdStop 2)) ?_
    refine L_nil ?_
    refine LP_one ?_
    refine L_v rfl rfl rfl (V_makeIface rfl rfl Try.underlying110 rfl) ?_
    refine L_nil ?_
    refine LP_panic rfl rfl rfl ?_
    change KretP _ _ _ (Exit.panic _) _
    refine KretP_panic rfl ?_
    exact fun w' h => OutP.err (lnI_no hv4) h.fr

end Go.Proofs.Ytcdenfkbhefbbaa
