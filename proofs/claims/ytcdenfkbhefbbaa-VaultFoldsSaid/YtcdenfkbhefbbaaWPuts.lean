/- What the functions that lay a message hand back. -/
import Derived.Test.YtcdenfkbhefbbaaWTry
set_option linter.unusedVariables false
set_option linter.unusedSimpArgs false
set_option maxRecDepth 100000
namespace Go.Proofs.Ytcdenfkbhefbbaa
open Go.Sx
/-- Bytes in new memory, or an error. -/
def PutR (w : World) (r : Except Int (List Int)) : Ending → World → Prop := fun e w' => Fr [] w w' ∧ match r with
  | .ok M => ∃ a n c, e = .returned (.tuple #[.slice a n c, vi 0]) ∧ SlB w' (.slice a n c) M ∧ n ≤ c ∧ ∀ k, (factB (.slice a n c) M).fp k → w.heap.size ≤ k
  | .error k => e = .returned (.tuple #[.slice none 0 0, vi k])
/-- So, and in a row of their own with room behind. -/
def PutS (w : World) (r : Except Int (List Int)) : Ending → World → Prop := fun e w' => Fr [] w w' ∧ match r with
  | .ok M => ∃ a n c, e = .returned (.tuple #[.slice a n c, vi 0]) ∧ SlR w' (.slice a n c) M ∧ n ≤ c ∧ ∀ k, (factB (.slice a n c) M).fp k → w.heap.size ≤ k
  | .error k => e = .returned (.tuple #[.slice none 0 0, vi k])
theorem PutS.toR {w : World} {r : Except Int (List Int)} {e : Ending} {w' : World} (h : PutS w r e w') : PutR w r e w' := by
  cases r with
  | error k => exact h
  | ok M =>
    obtain ⟨hfr, a, n, c, he, hs, hc, hn⟩ := h
    exact ⟨hfr, a, n, c, he, hs.toB, hc, hn⟩
theorem encT_err {t : Tok} {k : Int} (h : encT t = .error k) : k = 1 ∨ k = 2 := by
  cases t <;> simp only [encT] at h
  · split at h <;> cases h; exact .inl rfl
  · split at h <;> cases h; exact .inr rfl
  · cases h
  · split at h <;> cases h; exact .inr rfl
theorem encTs_err : ∀ {l : List Tok} {k : Int}, encTs l = .error k → k = 1 ∨ k = 2
  | [], k, h => by cases h
  | t :: l, k, h => by
    rw [encTs] at h
    cases h1 : encT t with
    | error e => rw [h1] at h; cases h; exact encT_err h1
    | ok x =>
      rw [h1] at h
      cases h2 : encTs l with
      | error e => rw [h2] at h; cases h; exact encTs_err h2
      | ok y => rw [h2] at h; cases h
abbrev nilB : Value := .slice none 0 0
def TryR (w1 : World) (b : Nat) (r : Except Int (List Int)) : Ending → World → Prop := fun e w' => Fr [b] w1 w' ∧ match r with
      | .ok M => e = .returned (vi 0) ∧ ∃ a n c, w'.heap[b]? = some (row 83 [.slice a n c]) ∧ SlR w' (.slice a n c) M ∧ n ≤ c ∧ ∀ k, (factB (.slice a n c) M).fp k → w1.heap.size ≤ k
      | .error k => e = .returned (vi k)
/-- What is laid under a try. -/
theorem tryOut_w (F : FuncId) (cap : Array Value) (w1 : World) (b : Nat) (fs : List Fact) (r : Except Int (List Int)) (htx : Txt Try.prog F) (hb : w1.heap[b]? = some (row 83 [nilB])) (hfs : Fx fs w1 b)
    (hc : ∀ w, w.heap[b]? = some (row 83 [nilB]) → Fx fs w b → Calls Try.prog F cap w (OutP 83 110 w b nilB [] r)) :
    Calls Try.prog 40 #[.func (.func F) #[] cap] w1 (TryR w1 b r) := by
  have hlt : b < w1.heap.size := (Array.getElem?_eq_some_iff.1 hb).1
  refine (try_w F #[] cap w1 [b] (factO b (row 83 [nilB]) :: fs) (fun fs' => ∃ M a n c, r = .ok M ∧ n ≤ c ∧ fs' = [factO b (row 83 [.slice a n c]), { factB (.slice a n c) M with p := fun w' => SlR w' (.slice a n c) M ∧ ∀ k, (factB (.slice a n c) M).fp k → w1.heap.size ≤ k, dep := fun w w' h1 h2 => ⟨h2.1.dep h1, h2.2⟩ }]) (fun k fs' => r = .error k ∧ fs' = []) htx (by simpa using hlt) (fun f hf => ?_) (fun w hw hs => ?_)).mono ?_
  · rcases List.mem_cons.1 hf with rfl | hf
    · exact ⟨hb, fun k hk => by obtain rfl : k = b := hk; exact hlt⟩
    · exact ⟨(hfs f hf).1, fun k hk => ((hfs f hf).2 k hk).1⟩
  · have h1 := hc w (hw _ (List.mem_cons_self ..)) (fun f hf => ⟨hw f (List.mem_cons_of_mem _ hf), fun k hk => ⟨Nat.lt_of_lt_of_le ((hfs f hf).2 k hk).1 hs, ((hfs f hf).2 k hk).2⟩⟩)
    refine (show Calls Try.prog F (#[] ++ #[] ++ cap) w _ by rw [Array.empty_append, Array.empty_append]; exact h1).mono ?_
    rintro e w' ⟨hfr, hR⟩
    refine ⟨hfr, ?_⟩
    cases r with
    | error k => exact .inr ⟨k, [], hR, ⟨rfl, rfl⟩, by simp⟩
    | ok M =>
      obtain ⟨rfl, a, n, c, hb', hs', hnc, hn⟩ := hR
      have hN : ∀ k, (factB (.slice a n c) M).fp k → w.heap.size ≤ k := fun k hk => (hn k hk).elim (fun h => h) (fun h => absurd rfl h.1)
      refine .inl ⟨_, _, rfl, ⟨M, a, n, c, rfl, hnc, rfl⟩, fun f hf => ?_⟩
      simp only [List.mem_cons, List.not_mem_nil, or_false] at hf
      rcases hf with rfl | rfl
      · exact ⟨hb', fun k hk => by obtain rfl : k = b := hk; exact ⟨Nat.lt_of_lt_of_le (Nat.lt_of_lt_of_le hlt hs) hfr.size, .inl hlt⟩⟩
      · exact ⟨⟨hs', fun k hk => Nat.le_trans hs (hN k hk)⟩, fun k hk => ⟨factB_lt hs'.toB k hk, .inr (hN k hk)⟩⟩
  · rintro e w' ⟨hfr, hR⟩
    refine ⟨hfr, ?_⟩
    rcases hR with ⟨rfl, fs', ⟨M, a, n, c, rfl, hnc, rfl⟩, hf⟩ | ⟨k, _, rfl, ⟨rfl, rfl⟩, _⟩
    · have h1 := (hf _ (List.mem_cons_self ..)).1
      have h2 := (hf _ (List.mem_cons_of_mem _ (List.mem_cons_self ..))).1
      exact ⟨rfl, a, n, c, h1, h2.1, hnc, h2.2⟩
    · rfl
theorem fx3 {cx : Cx} {b0 b1 b2 : Nat} {p0 p1 p2 : Obj} {f0 : Fact} {fs : List Fact} {w : World} (h : OkW cx [(b0, p0), (b1, p1), (b2, p2)] (f0 :: fs) w) : Fx (factO b2 p2 :: factO b0 p0 :: fs) w b1 := by
  have n01 : b0 ≠ b1 := fun e => absurd (key_unique' h.dis (i := 0) (j := 1) (o := p0) (o' := p1) rfl (by rw [e]; rfl)) (by decide)
  have n21 : b2 ≠ b1 := fun e => absurd (key_unique' h.dis (i := 2) (j := 1) (o := p2) (o' := p1) rfl (by rw [e]; rfl)) (by decide)
  intro f hf
  rcases List.mem_cons.1 hf with rfl | hf
  · exact ⟨h.at (i := 2) rfl, fun k hk => by obtain rfl : k = b2 := hk; exact ⟨h.lt (by simp), n21⟩⟩
  rcases List.mem_cons.1 hf with rfl | hf
  · exact ⟨h.at (i := 0) rfl, fun k hk => by obtain rfl : k = b0 := hk; exact ⟨h.lt (by simp), n01⟩⟩
  · exact ⟨(h.facts f (List.mem_cons_of_mem _ hf)).1, fun k hk => ⟨((h.facts f (List.mem_cons_of_mem _ hf)).2 k hk).1, fun e => ((h.facts f (List.mem_cons_of_mem _ hf)).2 k hk).2 (by subst e; simp)⟩⟩
theorem drop1 {cx : Cx} {b0 b1 b2 : Nat} {p0 p1 p2 : Obj} {fs : List Fact} {w w' : World} (h : OkW cx [(b0, p0), (b1, p1), (b2, p2)] fs w) (hfr : Fr [b1] w w') : OkW cx [(b0, p0), (b2, p2)] [] w' := by
  have hd := h.dis
  refine h.step hfr (by simp) (fun b o hb => ?_) (by simp only [List.map_cons, List.map_nil, List.nodup_cons, List.mem_cons, List.not_mem_nil, or_false, not_or, not_false_eq_true, List.nodup_nil, and_true] at hd ⊢; exact hd.1.2) (by simp)
  simp only [List.mem_cons, Prod.mk.injEq, List.not_mem_nil, or_false] at hb
  simp only [List.map_cons, List.map_nil, List.nodup_cons, List.mem_cons, List.not_mem_nil, or_false, not_or, not_false_eq_true, List.nodup_nil, and_true] at hd
  rcases hb with ⟨rfl, rfl⟩ | ⟨rfl, rfl⟩
  · exact ⟨(hfr.block _ (h.lt (by simp)) (by simp only [List.mem_singleton]; exact hd.1.1)).trans (h.at (i := 0) rfl), .inr (by simp)⟩
  · exact ⟨(hfr.block _ (h.lt (by simp)) (by simp only [List.mem_singleton]; exact fun e => hd.2 e.symm)).trans (h.at (i := 2) rfl), .inr (by simp)⟩
theorem bdO0 (w : World) : (Instr.build 83 ([] : List (Nat × Value)).toArray).run Try.prog w = .ok (.agg [nilB].toArray) w := by kernel_rfl
theorem sz45q : (Try.prog.info? 45).map (·.size) = some 149 := by kernel_rfl
theorem sz65q : (Try.prog.info? 65).map (·.size) = some 1 := by kernel_rfl
theorem sz81q : (Try.prog.info? 81).map (·.size) = some 1 := by kernel_rfl
theorem tx39q : Txt Try.prog 39 := txt_of Try.func39 rfl (by kernel_rfl)
theorem tx40q : Txt Try.prog 40 := txt_of Try.func40 rfl (by kernel_rfl)
theorem tx41q : Txt Try.prog 41 := txt_of Try.func41 rfl (by kernel_rfl)
theorem tx42q : Txt Try.prog 42 := txt_of Try.func42 rfl (by kernel_rfl)
theorem z81q : (Try.prog.info? 81).bind (·.zero) = some (.pointer none) := by kernel_rfl

theorem end_no (u : Value) (k : Int) (w : World) (hk : k ≠ 0) :
    Calls Try.prog 39 #[u, vi k] w fun e w' => e = .returned (.tuple #[.slice none 0 0, vi k]) ∧ Fr [] w w' := by
  refine calls_of (args := [u, vi k]) ([]) ([]) ([]) Try.func39 rfl rfl (okW0 _ _ _ _) ?_
  refine J_seq ?_
  refine J_region ?_
  refine L_v rfl rfl rfl (V_assign rfl rfl) ?_
  refine L_v rfl rfl rfl (V_assign rfl rfl) ?_
  refine L_nil ?_
  change J _ _ _ _
  refine J_seq ?_
  refine J_seq ?_
  refine J_region ?_
  refine L_v rfl rfl rfl (V_move rfl rfl) ?_
  refine L_v rfl rfl rfl (V_neq rfl rfl rfl (decide_eq_true hk)) ?_
  refine L_nil ?_
  change J _ _ _ _
  refine J_true rfl ?_
  refine J_seq ?_
  refine J_region ?_
  refine L_v rfl rfl rfl (V_move rfl rfl) ?_
  refine L_v rfl rfl rfl (V_assign rfl rfl) ?_
  refine L_v rfl rfl rfl (V_assign rfl rfl) ?_
  refine L_nil ?_
  change J _ _ _ _
  refine J_ret ?_
  change Kret _ _ _ Exit.ret _
  refine ret2 rfl rfl (RV_t rfl) (RV_t rfl) ?_
  exact fun w' h => ⟨rfl, h.fr⟩

theorem end_ok (b : Nat) (a : Option Addr) (n c : Nat) (w : World) (hb : w.heap[b]? = some (row 83 [.slice a n c])) :
    Calls Try.prog 39 #[.pointer (some ⟨b, 0, none⟩), vi 0] w fun e w' => e = .returned (.tuple #[.slice a n c, vi 0]) ∧ Fr [] w w' := by
  refine calls_of (args := [.pointer (some ⟨b, 0, none⟩), vi 0]) ([]) ([]) ([]) Try.func39 rfl rfl (okW0 _ _ _ _) ?_
  refine J_seq ?_
  refine J_region ?_
  refine L_v rfl rfl rfl (V_assign rfl rfl) ?_
  refine L_v rfl rfl rfl (V_assign rfl rfl) ?_
  refine L_nil ?_
  change J _ _ _ _
  refine J_seq ?_
  refine J_seq ?_
  refine J_region ?_
  refine L_v rfl rfl rfl (V_move rfl rfl) ?_
  refine L_v rfl rfl rfl (V_neq rfl rfl rfl (by first | exact decide_eq_true (by omega) | exact decide_eq_false (by omega) | rfl)) ?_
  refine L_nil ?_
  change J _ _ _ _
  refine J_false rfl ?_
  refine J_skip ?_
  change J _ _ _ _
  refine J_seq ?_
  refine J_region ?_
  refine L_v rfl rfl rfl (V_move rfl rfl) ?_
  refine L_v rfl rfl rfl (V_nilCheck rfl rfl) ?_
  refine L_v rfl rfl rfl (V_fieldAddr rfl rfl Try.underlying83 rfl sz65q rfl) ?_
  refine L_v rfl rfl rfl (V_loadF rfl rfl Try.underlying65 rfl (fun w hw => OkW.later hw rfl hb) rfl) ?_
  refine L_v rfl rfl rfl (V_assign rfl rfl) ?_
  refine L_v rfl rfl rfl (V_assign rfl rfl) ?_
  refine L_nil ?_
  change J _ _ _ _
  refine J_ret ?_
  change Kret _ _ _ Exit.ret _
  refine ret2 rfl rfl (RV_t rfl) (RV_t rfl) ?_
  exact fun w' h => ⟨rfl, h.fr⟩

theorem precord1_w (b bo bx : Nat) (v1 v2 v3 v4 : Value) (x : Rec) (w : World) (hb : w.heap[b]? = some (row 83 [nilB])) (hfs : Fx (factO bo (row 81 [.pointer (some ⟨b, 0, none⟩)]) :: factO bx (row 45 (recV x v1 v2 v3 v4)) :: (clF v1 v2 x.2.2.2.1.2.2.2.2 ++ clF v3 v4 x.2.2.2.2.2.1.2.2.1)) w b) (hsz : 65545 * (16410) ≤ 1099511627776) :
    Calls Try.prog 41 #[.pointer (some ⟨bo, 0, none⟩), .pointer (some ⟨bx, 0, none⟩)] w fun e w' => OutP 83 110 w b nilB [] (encTs (recC.tk x)) e w' := by
  refine calls_of_p (args := [.pointer (some ⟨bo, 0, none⟩), .pointer (some ⟨bx, 0, none⟩)]) ([b]) ([(b, row 83 [nilB])]) (factR nilB [] :: factO bo (row 81 [.pointer (some ⟨b, 0, none⟩)]) :: factO bx (row 45 (recV x v1 v2 v3 v4)) :: (clF v1 v2 x.2.2.2.1.2.2.2.2 ++ clF v3 v4 x.2.2.2.2.2.1.2.2.1)) Try.func41 rfl rfl (ok_bl hb (SlR.nil _) hfs) ?_
  refine J_regionP ?_
  refine LP_one ?_
  refine L_v rfl rfl rfl (V_load rfl rfl Try.underlying81 rfl (fun w hw => cell_of (hw.facts _ (List.mem_cons_of_mem _ (List.mem_cons_self ..))).1 rfl)) ?_
  refine L_nil ?_
  refine LP_one ?_
  refine L_v rfl rfl rfl (V_loadWO (l := recV x v1 v2 v3 v4) rfl rfl Try.underlying45 rfl (fun w hw => (hw.facts _ (List.mem_cons_of_mem _ (List.mem_cons_of_mem _ (List.mem_cons_self ..)))).1) sz45q rfl) ?_
  refine L_nil ?_
  refine LP_out 0 rfl rfl rfl rfl rfl rfl tx42q rfl rfl (fun w1 hw => orec_w b none 0 0 [] v1 v2 v3 v4 x w1 (hw.at (i := 0) rfl) (fR hw 0 rfl) (Nat.le_refl _) (fun f hf => facts0 hw rfl f (List.mem_cons_of_mem _ (List.mem_cons_of_mem _ hf))) (by show 0 + _ ≤ _; omega)) (fun k hk => KretP_panic rfl (fun w' h => OutP.err hk h.fr)) (fun M1 a1 n1 c1 hM1 hc1 hN1 => ?_)
  refine LP_nil ?_
  change KretP _ _ _ Exit.normal _
  refine KretP_normal ?_
  refine KretP_plain ?_
  refine ret0 rfl rfl  ?_
  exact fun w' h => OutP.ok hM1 h.fr (h.at (i := 0) rfl) rfl (fR h 0 rfl) hc1 (hN1 _ _ (Nw.refl _ _ _))

theorem putrecord_r (v1 v2 v3 v4 : Value) (x : Rec) (w : World) (hdf : ∀ f ∈ (clF v1 v2 x.2.2.2.1.2.2.2.2 ++ clF v3 v4 x.2.2.2.2.2.1.2.2.1), f.p w ∧ ∀ k, f.fp k → k < w.heap.size) (hsz : 65545 * (16410) ≤ 1099511627776) :
    Calls Try.prog 21 #[.agg (recV x v1 v2 v3 v4).toArray] w fun e w' => PutS w (encTs (recC.tk x)) e w' := by
  refine calls_of (args := [.agg (recV x v1 v2 v3 v4).toArray]) ([]) ([]) (factR nilB [] :: (clF v1 v2 x.2.2.2.1.2.2.2.2 ++ clF v3 v4 x.2.2.2.2.2.1.2.2.1)) Try.func21 rfl rfl (okW_facts (fun f hf => by rcases List.mem_cons.1 hf with rfl | hf; exact ⟨SlR.nil _, fun k hk => absurd rfl hk.1⟩; exact hdf f hf)) ?_
  rcases hE : encTs (recC.tk x) with k | M
  ·
    refine J_seq ?_
    refine J_region ?_
    refine L_box rfl rfl rfl rfl rfl (fun b0 => ?_)
    refine L_v rfl rfl rfl (V_assign rfl rfl) ?_
    refine L_v rfl rfl rfl (V_assign rfl rfl) ?_
    refine L_nil ?_
    change J _ _ _ _
    refine J_seq ?_
    refine J_region ?_
    refine L_v rfl rfl rfl (V_build (vs := []) rfl rfl bdO0) ?_
    refine L_box rfl rfl rfl rfl rfl (fun b1 => ?_)
    refine L_alloc rfl rfl rfl rfl z81q (fun b2 => ?_)
    refine L_store1 2 rfl rfl rfl rfl rfl rfl rfl sz81q (by first | exact Nat.zero_lt_succ _ | (simp only [dg_length, List.length_append, List.length_take, List.length_drop, zd_length]; omega) | omega) (by first | rfl | exact dg_set _ _ _) ?_
    refine L_nil ?_
    change J _ _ _ _
    refine J_seq ?_
    refine J_regionO (.pure 0 (.pure 1 (.one 2 (.one 3 (.pure 4 (.pure 5 (.pure 6 (.pure 7 (.nil))))))))) ([(b0, row 45 (recV x v1 v2 v3 v4)), (b2, row 81 [.pointer (some ⟨b1, 0, none⟩)])]) [] (Pk.of_sub (.cons_cons _ (.cons _ (.cons_cons _ .slnil)))) (fun f hf => by cases hf) rfl rfl (by kernel_rfl) ?_
    refine LO_v rfl rfl rfl rfl (V_load1 1 rfl rfl rfl Try.underlying81 rfl rfl) ?_
    refine LO_v rfl rfl rfl rfl (V_makeFunc rfl rfl rfl) ?_
    refine LO_s rfl rfl rfl (S_call rfl rfl rfl tx40q (fun w1 hw => (tryOut_w 41 #[.pointer (some ⟨b2, 0, none⟩), .pointer (some ⟨b0, 0, none⟩)] w1 b1 ([factO b2 (row 81 [.pointer (some ⟨b1, 0, none⟩)]), factO b0 (row 45 (recV x v1 v2 v3 v4))] ++ (clF v1 v2 x.2.2.2.1.2.2.2.2 ++ clF v3 v4 x.2.2.2.2.2.1.2.2.1)) (encTs (recC.tk x)) tx41q (hw.at (i := 1) rfl) (fx3 hw) (fun w2 h2 h3 => precord1_w b1 b2 b0 v1 v2 v3 v4 x w2 h2 h3 (by omega))).mono ?_))
    rintro e w' ⟨hfr, hR⟩
    rw [hE] at hR
    obtain rfl := hR
    refine ⟨_, [(b0, row 45 (recV x v1 v2 v3 v4)), (b2, row 81 [.pointer (some ⟨b1, 0, none⟩)])], [], rfl, drop1 hw hfr, rfl, Pk.refl _, (fun f hf => by cases hf), ?_⟩
    refine LO_callV rfl rfl rfl rfl rfl rfl rfl rfl tx39q (fun w1 hw => end_no _ k w1 (fun e => by rcases encTs_err hE with h | h <;> omega)) (Pk.refl _) (fun f hf => by cases hf) ?_
    refine LO_v rfl rfl rfl rfl (V_extract rfl rfl rfl) ?_
    refine LO_v rfl rfl rfl rfl (V_extract rfl rfl rfl) ?_
    refine LO_v rfl rfl rfl rfl (V_assign rfl rfl) ?_
    refine LO_v rfl rfl rfl rfl (V_assign rfl rfl) ?_
    refine LO_nil ?_
    change J _ _ _ _
    refine J_ret ?_
    change Kret _ _ _ Exit.ret _
    refine ret2 rfl rfl (RV_t rfl) (RV_t rfl) ?_
    exact fun w' h => ⟨h.fr, rfl⟩
  ·
    refine J_seq ?_
    refine J_region ?_
    refine L_box rfl rfl rfl rfl rfl (fun b0 => ?_)
    refine L_v rfl rfl rfl (V_assign rfl rfl) ?_
    refine L_v rfl rfl rfl (V_assign rfl rfl) ?_
    refine L_nil ?_
    change J _ _ _ _
    refine J_seq ?_
    refine J_region ?_
    refine L_v rfl rfl rfl (V_build (vs := []) rfl rfl bdO0) ?_
    refine L_box rfl rfl rfl rfl rfl (fun b1 => ?_)
    refine L_alloc rfl rfl rfl rfl z81q (fun b2 => ?_)
    refine L_store1 2 rfl rfl rfl rfl rfl rfl rfl sz81q (by first | exact Nat.zero_lt_succ _ | (simp only [dg_length, List.length_append, List.length_take, List.length_drop, zd_length]; omega) | omega) (by first | rfl | exact dg_set _ _ _) ?_
    refine L_nil ?_
    change J _ _ _ _
    refine J_seq ?_
    refine J_regionO (.pure 0 (.pure 1 (.one 2 (.one 3 (.pure 4 (.pure 5 (.pure 6 (.pure 7 (.nil))))))))) ([(b0, row 45 (recV x v1 v2 v3 v4)), (b2, row 81 [.pointer (some ⟨b1, 0, none⟩)])]) [] (Pk.of_sub (.cons_cons _ (.cons _ (.cons_cons _ .slnil)))) (fun f hf => by cases hf) rfl rfl (by kernel_rfl) ?_
    refine LO_v rfl rfl rfl rfl (V_load1 1 rfl rfl rfl Try.underlying81 rfl rfl) ?_
    refine LO_v rfl rfl rfl rfl (V_makeFunc rfl rfl rfl) ?_
    refine LO_s rfl rfl rfl (S_call rfl rfl rfl tx40q (fun w1 hw => (tryOut_w 41 #[.pointer (some ⟨b2, 0, none⟩), .pointer (some ⟨b0, 0, none⟩)] w1 b1 ([factO b2 (row 81 [.pointer (some ⟨b1, 0, none⟩)]), factO b0 (row 45 (recV x v1 v2 v3 v4))] ++ (clF v1 v2 x.2.2.2.1.2.2.2.2 ++ clF v3 v4 x.2.2.2.2.2.1.2.2.1)) (encTs (recC.tk x)) tx41q (hw.at (i := 1) rfl) (fx3 hw) (fun w2 h2 h3 => precord1_w b1 b2 b0 v1 v2 v3 v4 x w2 h2 h3 (by omega))).mono ?_))
    rintro e w' ⟨hfr, hR⟩
    rw [hE] at hR
    obtain ⟨rfl, a, n, c, hb', hs', hnc, hnw⟩ := hR
    have hnw2 : ∀ k, (factB (.slice a n c) M).fp k → w.heap.size ≤ k := fun k hk => Nat.le_trans hw.fr.size (hnw k hk)
    refine ⟨_, _, _, rfl, hw.out (i := 1) rfl hfr hb' hs' (fun k hk => .inl (hnw k hk)), rfl, (Pk.of_sub (.cons_cons _ (.cons _ (.cons_cons _ .slnil)))), (by simp), ?_⟩
    refine LO_callV rfl rfl rfl rfl rfl rfl rfl rfl tx39q (fun w1 hw => end_ok b1 a n c w1 (hw.at (i := 1) rfl)) (Pk.of_sub (.cons_cons _ (.cons _ (.cons_cons _ .slnil)))) (fun f hf => by cases hf) ?_
    refine LO_v rfl rfl rfl rfl (V_extract rfl rfl rfl) ?_
    refine LO_v rfl rfl rfl rfl (V_extract rfl rfl rfl) ?_
    refine LO_v rfl rfl rfl rfl (V_assign rfl rfl) ?_
    refine LO_v rfl rfl rfl rfl (V_assign rfl rfl) ?_
    refine LO_nil ?_
    change J _ _ _ _
    refine J_ret ?_
    change Kret _ _ _ Exit.ret _
    refine ret2 rfl rfl (RV_t rfl) (RV_t rfl) ?_
    exact fun w' h => ⟨h.fr, a, n, c, rfl, fR h 0 rfl, hnc, hnw2⟩

theorem putrecord_w (v1 v2 v3 v4 : Value) (x : Rec) (w : World) (hdf : ∀ f ∈ (clF v1 v2 x.2.2.2.1.2.2.2.2 ++ clF v3 v4 x.2.2.2.2.2.1.2.2.1), f.p w ∧ ∀ k, f.fp k → k < w.heap.size) (hsz : 65545 * (16410) ≤ 1099511627776) :
    Calls Try.prog 21 #[.agg (recV x v1 v2 v3 v4).toArray] w fun e w' => PutR w (encTs (recC.tk x)) e w' :=
  (putrecord_r v1 v2 v3 v4 x w hdf hsz).mono fun _ _ h => h.toR

end Go.Proofs.Ytcdenfkbhefbbaa
