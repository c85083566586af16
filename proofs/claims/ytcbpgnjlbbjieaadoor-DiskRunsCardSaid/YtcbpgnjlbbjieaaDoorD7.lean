/- The document's disk: lists of names. -/
import Derived.Test.YtcbpgnjlbbjieaaDoorD6
import Derived.Test.YtcbpgnjlbbjieaaDoorSx22
set_option linter.unusedVariables false
set_option linter.unusedSimpArgs false
set_option maxRecDepth 100000
namespace Go.Proofs.YtcbpgnjlbbjieaaDoor
open Go.Sx
abbrev nmC (p : Nm) : List Value := [.string p.1, .int .i64 p.2]
abbrev nmR (l : List Nm) : List Value := (l.map nmC).flatten
abbrev nmF (a : Option Addr) (c : Nat) (l : List Nm) : Fact := factC 2 (.slice a l.length c) l.length (nmR l)
theorem nmR_app (l m : List Nm) : nmR (l ++ m) = nmR l ++ nmR m := by
  show ((l ++ m).map nmC).flatten = _
  rw [List.map_append, List.flatten_append]
theorem nmR_at {l : List Nm} {i : Nat} (h : i < l.length) (k : Nat) (u : Value) (hu : (nmC (l.getD i (e0, 0)))[k]? = some u) : (nmR l)[((i : Nat) : Int).toNat * (1 + 1) + k]? = some u := by
  have hk : k < 2 := (List.getElem?_eq_some_iff.1 hu).1
  rw [← hu]
  exact flat_get' (f := nmC) (fun _ => rfl) (e0, 0) k h hk
theorem nm_pos {l : List Nm} {w : World} {a : Option Addr} {c i : Nat} (h : SlC 2 w (.slice a l.length c) l.length (nmR l)) (hi : i < l.length) : ∃ b off, a = some ⟨b, off, none⟩ := by
  obtain ⟨b, off, e, _⟩ := h.cell (nmR_at hi 0 _ rfl)
  exact ⟨b, off, e⟩
theorem elN : ElemOf Tryd.prog 96 2 24 (.agg [.string ByteArray.empty, .int .i64 0].toArray) := elem_of (by kernel_rfl) rfl
theorem bsN (p : Nm) (w : World) : (Instr.buildSlice 79 1 [(0, .agg (nmC p).toArray)].toArray).run Tryd.prog w = .ok (.slice (some ⟨w.heap.size, 0, none⟩) 1 1) (w.alloc (row 96 (nmC p))) := by kernel_rfl
/-- A list of names of the caller's own. -/
def LsP (l : List Nm) (w : World) : Ending → World → Prop := fun e w' => ∃ q : OwnP, e = .returned (pV q l.length) ∧ PC 2 q l.length (nmR l) ∧ Upd [] w w' (pM 96 q (nmR l)) []
theorem s_at {s : ByteArray} {i : Nat} (h : i < s.size) : s[((i : Nat) : Int).toNat]?.map (fun b => (b.toNat : Int)) = some ((s.data.toList.getD i 0).toNat : Int) := by
  show s[i]?.map _ = _
  have h1 : s[i]? = some (s.data.toList.getD i 0) := by
    rw [getElem?_pos s i h, List.getD_eq_getElem?_getD]
    have h2 : i < s.data.toList.length := by rw [Array.length_toList]; exact h
    rw [List.getElem?_eq_getElem h2]
    rfl
  rw [h1]
  rfl
theorem name_no {s : ByteArray} {i : Nat} (h : i < s.size) (hb : letB (s.data.toList.getD i 0) = false) : nameOk s = false := by
  unfold nameOk
  rw [Bool.and_eq_false_iff]
  right
  rw [List.all_eq_false]
  have h2 : i < s.data.toList.length := by rw [Array.length_toList]; exact h
  refine ⟨s.data.toList.getD i 0, getD_mem h2, by rw [hb]; decide⟩
theorem name_all {s : ByteArray} (h : ∀ j, j < s.size → letB (s.data.toList.getD j 0) = true) : nameOk s = decide (1 ≤ s.size ∧ s.size ≤ 16) := by
  unfold nameOk
  rw [show s.data.toList.all letB = true from ?_, Bool.and_true]
  rw [List.all_eq_true]
  intro x hx
  obtain ⟨j, hj, rfl⟩ := List.mem_iff_getElem.1 hx
  have := h j (by rw [Array.length_toList] at hj; exact hj)
  rwa [List.getD_eq_getElem?_getD, List.getElem?_eq_getElem hj] at this
theorem let_yes {c : UInt8} (h : 97 ≤ c.toNat ∧ c.toNat ≤ 122 ∨ 48 ≤ c.toNat ∧ c.toNat ≤ 57 ∨ c.toNat = 45) : letB c = true := decide_eq_true h
theorem let_no {c : UInt8} (h : ¬ (97 ≤ c.toNat ∧ c.toNat ≤ 122 ∨ 48 ≤ c.toNat ∧ c.toNat ≤ 57 ∨ c.toNat = 45)) : letB c = false := decide_eq_false h
theorem sz9dg : (Tryd.prog.info? 9).map (·.size) = some 1 := by kernel_rfl
theorem sz96dg : (Tryd.prog.info? 96).map (·.size) = some 2 := by kernel_rfl

theorem is_w (s : ByteArray) (w : World) (hs : s.size ≤ 9223372036854775807) :
    Calls Tryd.prog 56 #[.string s] w fun e w' => e = .returned (.bool (nameOk s)) ∧ Fr [] w w' := by
  refine calls_of (args := [.string s]) ([]) ([]) ([]) Tryd.func56 rfl rfl (okW0 _ _ _ _) ?_
  refine J_seq ?_
  refine J_region ?_
  refine L_v rfl rfl rfl (V_assign rfl rfl) ?_
  refine L_nil ?_
  change J _ _ _ _
  refine J_seq ?_
  refine J_seq ?_
  refine J_region ?_
  refine L_v rfl rfl rfl (V_assign rfl rfl) ?_
  refine L_nil ?_
  change J _ _ _ _
  refine J_block ?_
  refine J_loop (X := Nat) (fun i => { env := [(0, .string s), (3, .int .i64 (i : Int))] }) (fun i => i ≤ s.size ∧ ∀ j, j < i → letB (s.data.toList.getD j 0) = true) (fun i => s.size - i) 0 ⟨Nat.zero_le _, fun j hj => absurd hj (Nat.not_lt_zero _)⟩ ⟨⟨rfl, rfl, trivial⟩, List.Sublist.refl _, fun f hf => hf, rfl⟩ ?_
  rintro i ⟨hil, hal⟩
  try simp only at hil hal ⊢
  refine J_seq ?_
  refine J_seq ?_
  refine J_region ?_
  refine L_v rfl rfl rfl (V_move rfl rfl) ?_
  refine L_v rfl rfl rfl (V_move rfl rfl) ?_
  refine L_v rfl rfl rfl (V_lenS rfl rfl Tryd.underlying9 rfl) ?_
  refine L_v rfl rfl rfl (V_lss rfl rfl rfl rfl) ?_
  refine L_nil ?_
  change J _ _ _ _
  refine J_cond rfl (fun h1 => ?_) (fun h1 => ?_)
  ·
    first | (have h1 := of_decide_eq_true h1) | (have h1 := of_decide_eq_false h1) | skip
    have hi : i < s.size := by omega
    generalize hcc : s.data.toList.getD i 0 = cc
    refine J_skip ?_
    change J _ _ _ _
    refine J_seq ?_
    refine J_block ?_
    refine J_seq ?_
    refine J_region ?_
    refine L_v rfl rfl rfl (V_move rfl rfl) ?_
    refine L_v rfl rfl rfl (V_move rfl rfl) ?_
    refine L_v rfl rfl rfl (V_indexStr rfl rfl rfl Tryd.underlying9 (by omega) (s_at hi)) ?_
    refine L_v rfl rfl rfl (V_lss rfl rfl rfl rfl) ?_
    refine L_v rfl rfl rfl (V_move rfl rfl) ?_
    apply L_or 4 14 19
    · rfl
    · rfl
    · rfl
    · rfl
    · rfl
    · rfl
    · rfl
    · kernel_rfl
    · intro hb2 _ _ hk2
      refine L_wv rfl rfl rfl rfl rfl rfl (V_move rfl rfl) ?_
      refine L_wv rfl rfl rfl rfl rfl rfl (V_move rfl rfl) ?_
      refine L_wv rfl rfl rfl rfl rfl rfl (V_indexStr rfl rfl rfl Tryd.underlying9 (by omega) (s_at hi)) ?_
      refine L_wv rfl rfl rfl rfl rfl rfl (V_gtr rfl rfl rfl rfl) ?_
      exact hk2 _ ⟨rfl, (by first | simp only [St.put] | rfl), (by first | simp only [St.put] | rfl), (by first | simp only [St.put] | rfl), ext_cut 4 (by kernel_rfl) (by kernel_rfl)⟩
    refine L_v rfl rfl rfl (V_move rfl rfl) ?_
    refine L_split 20 rfl (fun h3 => ?_) (fun h3 => ?_)
    ·
      first | (have h3 := of_decide_eq_true h3) | (have h3 := of_decide_eq_false h3) | skip
      refine L_wv rfl rfl rfl rfl rfl rfl (V_move rfl rfl) ?_
      refine L_wv rfl rfl rfl rfl rfl rfl (V_move rfl rfl) ?_
      refine L_wv rfl rfl rfl rfl rfl rfl (V_indexStr rfl rfl rfl Tryd.underlying9 (by omega) (s_at hi)) ?_
      refine L_wv rfl rfl rfl rfl rfl rfl (V_lss rfl rfl rfl rfl) ?_
      refine L_wv rfl rfl rfl rfl rfl rfl (V_move rfl rfl) ?_
      refine L_split 25 rfl (fun h4 => ?_) (fun h4 => ?_)
      ·
        first | (have h4 := of_decide_eq_true h4) | (have h4 := of_decide_eq_false h4) | skip
        refine L_skip rfl rfl rfl rfl rfl rfl rfl ?_
        refine L_skip rfl rfl rfl rfl rfl rfl rfl ?_
        refine L_skip rfl rfl rfl rfl rfl rfl rfl ?_
        refine L_skip rfl rfl rfl rfl rfl rfl rfl ?_
        first | refine L_wv rfl rfl rfl rfl rfl rfl (V_pickT rfl rfl rfl) ?_ | refine L_wv rfl rfl rfl rfl rfl rfl (V_pickF rfl rfl rfl) ?_
        first | refine L_v rfl rfl rfl (V_pickT rfl rfl rfl) ?_ | refine L_v rfl rfl rfl (V_pickF rfl rfl rfl) ?_
        refine L_v rfl rfl rfl (V_move rfl rfl) ?_
        apply L_and 4 32 37
        · rfl
        · rfl
        · rfl
        · rfl
        · rfl
        · rfl
        · rfl
        · kernel_rfl
        · intro hb5 _ _ hk5
          refine L_wv rfl rfl rfl rfl rfl rfl (V_move rfl rfl) ?_
          refine L_wv rfl rfl rfl rfl rfl rfl (V_move rfl rfl) ?_
          refine L_wv rfl rfl rfl rfl rfl rfl (V_indexStr rfl rfl rfl Tryd.underlying9 (by omega) (s_at hi)) ?_
          refine L_wv rfl rfl rfl rfl rfl rfl (V_neq rfl rfl rfl rfl) ?_
          exact hk5 _ ⟨rfl, (by first | simp only [St.put] | rfl), (by first | simp only [St.put] | rfl), (by first | simp only [St.put] | rfl), ext_cut 4 (by kernel_rfl) (by kernel_rfl)⟩
        refine L_nil ?_
        change J _ _ _ _
        refine J_cond rfl (fun h6 => ?_) (fun h6 => ?_)
        ·
          first | (have h6 := of_decide_eq_true h6) | (have h6 := of_decide_eq_false h6) | skip
          refine J_seq ?_
          refine J_region ?_
          refine L_v rfl rfl rfl (V_assign rfl rfl) ?_
          refine L_nil ?_
          change J _ _ _ _
          refine J_ret ?_
          change Kret _ _ _ Exit.ret _
          refine ret1 rfl rfl (RV_t rfl) ?_
          exact fun w' h => ⟨by rw [name_no hi (let_no (by (simp only [Bool.false_eq_true, false_and, Bool.false_and, Bool.or_eq_true, Bool.and_eq_true, Bool.or_eq_false_iff, Bool.and_eq_false_iff, decide_eq_true_eq, decide_eq_false_iff_not, ne_eq, Classical.not_not] at h3 h4 h6) <;> omega))], h.fr⟩
        ·
          first | (have h6 := of_decide_eq_true h6) | (have h6 := of_decide_eq_false h6) | skip
          refine J_skip ?_
          change J _ _ _ _
          refine J_region ?_
          refine L_v rfl rfl rfl (V_move rfl rfl) ?_
          refine L_v rfl rfl rfl (V_add (r := ((i + 1 : Nat) : Int)) rfl rfl rfl (by rw [IntKind.wrap_i64]; omega)) ?_
          refine L_v rfl rfl rfl (V_assign rfl rfl) ?_
          refine L_nil ?_
          exact ⟨i + 1, ⟨by omega, fun j hj => by
            by_cases h9 : j = i
            · subst h9
              exact let_yes (by (simp only [Bool.false_eq_true, false_and, Bool.false_and, Bool.or_eq_true, Bool.and_eq_true, Bool.or_eq_false_iff, Bool.and_eq_false_iff, decide_eq_true_eq, decide_eq_false_iff_not, ne_eq, Classical.not_not] at h3 h4 h6) <;> omega)
            · exact hal j (by omega)⟩, by omega, ⟨rfl, rfl, trivial⟩, List.Sublist.refl _, fun f hf => hf, rfl⟩
      ·
        first | (have h4 := of_decide_eq_true h4) | (have h4 := of_decide_eq_false h4) | skip
        refine L_wv rfl rfl rfl rfl rfl rfl (V_move rfl rfl) ?_
        refine L_wv rfl rfl rfl rfl rfl rfl (V_move rfl rfl) ?_
        refine L_wv rfl rfl rfl rfl rfl rfl (V_indexStr rfl rfl rfl Tryd.underlying9 (by omega) (s_at hi)) ?_
        refine L_wv rfl rfl rfl rfl rfl rfl (V_gtr rfl rfl rfl rfl) ?_
        first | refine L_wv rfl rfl rfl rfl rfl rfl (V_pickT rfl rfl rfl) ?_ | refine L_wv rfl rfl rfl rfl rfl rfl (V_pickF rfl rfl rfl) ?_
        first | refine L_v rfl rfl rfl (V_pickT rfl rfl rfl) ?_ | refine L_v rfl rfl rfl (V_pickF rfl rfl rfl) ?_
        refine L_v rfl rfl rfl (V_move rfl rfl) ?_
        apply L_and 4 32 37
        · rfl
        · rfl
        · rfl
        · rfl
        · rfl
        · rfl
        · rfl
        · kernel_rfl
        · intro hb5 _ _ hk5
          refine L_wv rfl rfl rfl rfl rfl rfl (V_move rfl rfl) ?_
          refine L_wv rfl rfl rfl rfl rfl rfl (V_move rfl rfl) ?_
          refine L_wv rfl rfl rfl rfl rfl rfl (V_indexStr rfl rfl rfl Tryd.underlying9 (by omega) (s_at hi)) ?_
          refine L_wv rfl rfl rfl rfl rfl rfl (V_neq rfl rfl rfl rfl) ?_
          exact hk5 _ ⟨rfl, (by first | simp only [St.put] | rfl), (by first | simp only [St.put] | rfl), (by first | simp only [St.put] | rfl), ext_cut 4 (by kernel_rfl) (by kernel_rfl)⟩
        refine L_nil ?_
        change J _ _ _ _
        refine J_cond rfl (fun h6 => ?_) (fun h6 => ?_)
        ·
          first | (have h6 := of_decide_eq_true h6) | (have h6 := of_decide_eq_false h6) | skip
          refine J_seq ?_
          refine J_region ?_
          refine L_v rfl rfl rfl (V_assign rfl rfl) ?_
          refine L_nil ?_
          change J _ _ _ _
          refine J_ret ?_
          change Kret _ _ _ Exit.ret _
          refine ret1 rfl rfl (RV_t rfl) ?_
          exact fun w' h => ⟨by rw [name_no hi (let_no (by (simp only [Bool.false_eq_true, false_and, Bool.false_and, Bool.or_eq_true, Bool.and_eq_true, Bool.or_eq_false_iff, Bool.and_eq_false_iff, decide_eq_true_eq, decide_eq_false_iff_not, ne_eq, Classical.not_not] at h3 h4 h6) <;> omega))], h.fr⟩
        ·
          first | (have h6 := of_decide_eq_true h6) | (have h6 := of_decide_eq_false h6) | skip
          refine J_skip ?_
          change J _ _ _ _
          refine J_region ?_
          refine L_v rfl rfl rfl (V_move rfl rfl) ?_
          refine L_v rfl rfl rfl (V_add (r := ((i + 1 : Nat) : Int)) rfl rfl rfl (by rw [IntKind.wrap_i64]; omega)) ?_
          refine L_v rfl rfl rfl (V_assign rfl rfl) ?_
          refine L_nil ?_
          exact ⟨i + 1, ⟨by omega, fun j hj => by
            by_cases h9 : j = i
            · subst h9
              exact let_yes (by (simp only [Bool.false_eq_true, false_and, Bool.false_and, Bool.or_eq_true, Bool.and_eq_true, Bool.or_eq_false_iff, Bool.and_eq_false_iff, decide_eq_true_eq, decide_eq_false_iff_not, ne_eq, Classical.not_not] at h3 h4 h6) <;> omega)
            · exact hal j (by omega)⟩, by omega, ⟨rfl, rfl, trivial⟩, List.Sublist.refl _, fun f hf => hf, rfl⟩
    ·
      first | (have h3 := of_decide_eq_true h3) | (have h3 := of_decide_eq_false h3) | skip
      refine L_skip rfl rfl rfl rfl rfl rfl rfl ?_
      refine L_skip rfl rfl rfl rfl rfl rfl rfl ?_
      refine L_skip rfl rfl rfl rfl rfl rfl rfl ?_
      refine L_skip rfl rfl rfl rfl rfl rfl rfl ?_
      refine L_skip rfl rfl rfl rfl rfl rfl rfl ?_
      refine L_skip rfl rfl rfl rfl rfl rfl rfl ?_
      refine L_skip rfl rfl rfl rfl rfl rfl rfl ?_
      refine L_skip rfl rfl rfl rfl rfl rfl rfl ?_
      refine L_skip rfl rfl rfl rfl rfl rfl rfl ?_
      refine L_skip rfl rfl rfl rfl rfl rfl rfl ?_
      first | refine L_v rfl rfl rfl (V_pickT rfl rfl rfl) ?_ | refine L_v rfl rfl rfl (V_pickF rfl rfl rfl) ?_
      refine L_v rfl rfl rfl (V_move rfl rfl) ?_
      apply L_and 4 32 37
      · rfl
      · rfl
      · rfl
      · rfl
      · rfl
      · rfl
      · rfl
      · kernel_rfl
      · intro hb4 _ _ hk4
        refine L_wv rfl rfl rfl rfl rfl rfl (V_move rfl rfl) ?_
        refine L_wv rfl rfl rfl rfl rfl rfl (V_move rfl rfl) ?_
        refine L_wv rfl rfl rfl rfl rfl rfl (V_indexStr rfl rfl rfl Tryd.underlying9 (by omega) (s_at hi)) ?_
        refine L_wv rfl rfl rfl rfl rfl rfl (V_neq rfl rfl rfl rfl) ?_
        exact hk4 _ ⟨rfl, (by first | simp only [St.put] | rfl), (by first | simp only [St.put] | rfl), (by first | simp only [St.put] | rfl), ext_cut 4 (by kernel_rfl) (by kernel_rfl)⟩
      refine L_nil ?_
      change J _ _ _ _
      refine J_cond rfl (fun h5 => ?_) (fun h5 => ?_)
      ·
        first | (have h5 := of_decide_eq_true h5) | (have h5 := of_decide_eq_false h5) | skip
        refine J_seq ?_
        refine J_region ?_
        refine L_v rfl rfl rfl (V_assign rfl rfl) ?_
        refine L_nil ?_
        change J _ _ _ _
        refine J_ret ?_
        change Kret _ _ _ Exit.ret _
        refine ret1 rfl rfl (RV_t rfl) ?_
        exact fun w' h => ⟨by rw [name_no hi (let_no (by (simp only [Bool.false_eq_true, false_and, Bool.false_and, Bool.or_eq_true, Bool.and_eq_true, Bool.or_eq_false_iff, Bool.and_eq_false_iff, decide_eq_true_eq, decide_eq_false_iff_not, ne_eq, Classical.not_not] at h3 h5) <;> omega))], h.fr⟩
      ·
        first | (have h5 := of_decide_eq_true h5) | (have h5 := of_decide_eq_false h5) | skip
        refine J_skip ?_
        change J _ _ _ _
        refine J_region ?_
        refine L_v rfl rfl rfl (V_move rfl rfl) ?_
        refine L_v rfl rfl rfl (V_add (r := ((i + 1 : Nat) : Int)) rfl rfl rfl (by rw [IntKind.wrap_i64]; omega)) ?_
        refine L_v rfl rfl rfl (V_assign rfl rfl) ?_
        refine L_nil ?_
        exact ⟨i + 1, ⟨by omega, fun j hj => by
          by_cases h9 : j = i
          · subst h9
            exact let_yes (by (simp only [Bool.false_eq_true, false_and, Bool.false_and, Bool.or_eq_true, Bool.and_eq_true, Bool.or_eq_false_iff, Bool.and_eq_false_iff, decide_eq_true_eq, decide_eq_false_iff_not, ne_eq, Classical.not_not] at h3 h5) <;> omega)
          · exact hal j (by omega)⟩, by omega, ⟨rfl, rfl, trivial⟩, List.Sublist.refl _, fun f hf => hf, rfl⟩
  ·
    first | (have h1 := of_decide_eq_true h1) | (have h1 := of_decide_eq_false h1) | skip
    refine J_exit ?_
    change J _ _ _ _
    refine J_seq ?_
    refine J_region ?_
    refine L_v rfl rfl rfl (V_move rfl rfl) ?_
    refine L_v rfl rfl rfl (V_lenS rfl rfl Tryd.underlying9 rfl) ?_
    refine L_v rfl rfl rfl (V_geq rfl rfl rfl rfl) ?_
    refine L_v rfl rfl rfl (V_move rfl rfl) ?_
    apply L_and 3 41 45
    · rfl
    · rfl
    · rfl
    · rfl
    · rfl
    · rfl
    · rfl
    · kernel_rfl
    · intro hb2 _ _ hk2
      refine L_wv rfl rfl rfl rfl rfl rfl (V_move rfl rfl) ?_
      refine L_wv rfl rfl rfl rfl rfl rfl (V_lenS rfl rfl Tryd.underlying9 rfl) ?_
      refine L_wv rfl rfl rfl rfl rfl rfl (V_leq rfl rfl rfl rfl) ?_
      exact hk2 _ ⟨rfl, (by first | simp only [St.put] | rfl), (by first | simp only [St.put] | rfl), (by first | simp only [St.put] | rfl), ext_cut 3 (by kernel_rfl) (by kernel_rfl)⟩
    refine L_v rfl rfl rfl (V_assign rfl rfl) ?_
    refine L_nil ?_
    change J _ _ _ _
    refine J_ret ?_
    change Kret _ _ _ Exit.ret _
    refine ret1 rfl rfl (RV_t rfl) ?_
    exact fun w' h => ⟨by rw [name_all (fun j hj => hal j (by omega))]; congr 2; rw [Bool.eq_iff_iff, Bool.and_eq_true, decide_eq_true_eq, decide_eq_true_eq, decide_eq_true_eq]; omega, h.fr⟩

theorem without_w (a : Option Addr) (c : Nat) (l : List Nm) (s : ByteArray) (w : World) (hs : SlC 2 w (.slice a l.length c) l.length (nmR l)) (hl : l.length ≤ 1099511627776) :
    Calls Tryd.prog 72 #[.slice a l.length c, .string s] w fun e w' => LsP (delN l s) w e w' := by
  refine calls_of (args := [.slice a l.length c, .string s]) ([]) ([]) ([nmF a c l]) Tryd.func72 rfl rfl (okFW (.cons (.slc hs) .nil)) ?_
  refine J_seq ?_
  refine J_region ?_
  refine L_v rfl rfl rfl (V_assign rfl rfl) ?_
  refine L_nil ?_
  change J _ _ _ _
  refine J_seq ?_
  refine J_region ?_
  refine L_v rfl rfl rfl (V_assign rfl rfl) ?_
  refine L_nil ?_
  change J _ _ _ _
  refine J_seq ?_
  refine J_seq ?_
  refine J_region ?_
  refine L_v rfl rfl rfl (V_assign rfl rfl) ?_
  refine L_nil ?_
  change J _ _ _ _
  refine J_block ?_
  refine J_loop (X := Nat × OwnP) (fun x => { env := [(0, .slice a l.length c), (1, .string s), (5, pV x.2 (delN (l.take x.1) s).length), (6, .int .i64 (x.1 : Int))], mem := pM 96 x.2 (nmR (delN (l.take x.1) s)), facts := [nmF a c l] }) (fun x => x.1 ≤ l.length ∧ PC 2 x.2 (delN (l.take x.1) s).length (nmR (delN (l.take x.1) s))) (fun x => l.length - x.1) (0, none) ⟨Nat.zero_le _, ⟨rfl, rfl⟩⟩ ⟨⟨rfl, rfl, rfl, rfl, trivial⟩, List.Sublist.refl _, fun f hf => hf, rfl⟩ ?_
  rintro ⟨i, q⟩ ⟨hil, hq⟩
  try simp only at hil hq ⊢
  refine J_seq ?_
  refine J_seq ?_
  refine J_region ?_
  refine L_v rfl rfl rfl (V_move rfl rfl) ?_
  refine L_v rfl rfl rfl (V_move rfl rfl) ?_
  refine L_v rfl rfl rfl (V_len rfl rfl Tryd.underlying79 rfl) ?_
  refine L_v rfl rfl rfl (V_lss rfl rfl rfl rfl) ?_
  refine L_nil ?_
  change J _ _ _ _
  refine J_cond rfl (fun h1 => ?_) (fun h1 => ?_)
  ·
    first | (have h1 := of_decide_eq_true h1) | (have h1 := of_decide_eq_false h1) | skip
    have hi : i < l.length := by omega
    refine J_skip ?_
    change J _ _ _ _
    refine J_seq ?_
    refine J_block ?_
    refine J_seq ?_
    refine J_region ?_
    refine L_v rfl rfl rfl (V_move rfl rfl) ?_
    refine L_v rfl rfl rfl (V_move rfl rfl) ?_
    refine L_v rfl rfl rfl (V_indexN rfl rfl rfl Tryd.underlying79 sz96dg (nm_pos hs hi) (by omega) (by omega)) ?_
    refine L_v rfl rfl rfl (V_fieldC rfl rfl (fun _ _ => nm_pos hs hi) Tryd.underlying96 rfl sz9dg rfl) ?_
    refine L_v rfl rfl rfl (V_loadC rfl rfl Tryd.underlying9 rfl (fun w hw => (hw.fa 0 rfl).1) (nmR_at hi 0 _ rfl)) ?_
    refine L_v rfl rfl rfl (V_move rfl rfl) ?_
    refine L_v rfl rfl rfl (V_neS rfl rfl rfl rfl) ?_
    refine L_nil ?_
    change J _ _ _ _
    refine J_cond rfl (fun h2 => ?_) (fun h2 => ?_)
    ·
      first | (have h2 := of_decide_eq_true h2) | (have h2 := of_decide_eq_false h2) | skip
      refine J_region ?_
      refine L_v rfl rfl rfl (V_move rfl rfl) ?_
      refine L_v rfl rfl rfl (V_move rfl rfl) ?_
      refine L_v rfl rfl rfl (V_move rfl rfl) ?_
      refine L_v rfl rfl rfl (V_indexN rfl rfl rfl Tryd.underlying79 sz96dg (nm_pos hs hi) (by omega) (by omega)) ?_
      refine L_v rfl rfl rfl (V_loadCN (vs := nmC (l.getD i (e0, 0))) rfl rfl Tryd.underlying96 rfl (szd sz96dg (by kernel_rfl)) (fun w hw => (hw.fa 0 rfl).1) (by exact Nat.zero_lt_succ _) (nmR_at hi)) ?_
      refine L_buildSlice (e := 96) (vs := [(0, .agg (nmC (l.getD i (e0, 0))).toArray)]) (l := nmC (l.getD i (e0, 0))) rfl rfl rfl rfl rfl (bsN _) (fun b9 => ?_)
      refine L_cons rfl (S_appendP (e := 96) [] [(b9, row 96 (nmC (l.getD i (e0, 0))))] q (nmR (delN (l.take i) s)) (n := (delN (l.take i) s).length) (m := 1) (news := nmC (l.getD i (e0, 0))) rfl rfl rfl rfl Tryd.underlying79 elN rfl hq (fun w1 hw => src_C Tryd.underlying79 (SlC.in (r := []) (fz := (0, 0)) hw (List.mem_append_right _ (List.mem_singleton.2 rfl)) rfl 1) (all_one (by kernel_rfl))) (by have := delN_len (l.take i) s; rw [List.length_take] at this; omega) (by have := delN_len (l.take i) s; rw [List.length_take] at this; omega) (fun q' hq' => ?_))
      refine L_v rfl rfl rfl (V_assign rfl rfl) ?_
      refine L_nil ?_
      change J _ _ _ _
      refine J_region ?_
      refine L_v rfl rfl rfl (V_move rfl rfl) ?_
      refine L_v rfl rfl rfl (V_add (r := ((i + 1 : Nat) : Int)) rfl rfl rfl (by rw [IntKind.wrap_i64]; omega)) ?_
      refine L_v rfl rfl rfl (V_assign rfl rfl) ?_
      refine L_nil ?_
      have e9 : delN (l.take (i + 1)) s = delN (l.take i) s ++ [l.getD i (e0, 0)] := by rw [del_next hi, if_pos h2]
      exact ⟨(i + 1, q'), ⟨by show i + 1 ≤ _; omega, by show PC 2 q' (delN (l.take (i + 1)) s).length (nmR (delN (l.take (i + 1)) s)); rw [e9, List.length_append, nmR_app]; exact hq'⟩, by show l.length - (i + 1) < l.length - i; omega, ⟨rfl, rfl, (by show _ = some (pV q' (delN (l.take (i + 1)) s).length); rw [e9, List.length_append]; rfl), rfl, trivial⟩, (by show List.Sublist (pM 96 q' (nmR (delN (l.take (i + 1)) s))) ([] ++ (pM 96 q' _ ++ _)); rw [e9, nmR_app]; exact List.sublist_append_left _ _), fun f hf => hf, rfl⟩
    ·
      first | (have h2 := of_decide_eq_true h2) | (have h2 := of_decide_eq_false h2) | skip
      refine J_skip ?_
      change J _ _ _ _
      refine J_region ?_
      refine L_v rfl rfl rfl (V_move rfl rfl) ?_
      refine L_v rfl rfl rfl (V_add (r := ((i + 1 : Nat) : Int)) rfl rfl rfl (by rw [IntKind.wrap_i64]; omega)) ?_
      refine L_v rfl rfl rfl (V_assign rfl rfl) ?_
      refine L_nil ?_
      have e9 : delN (l.take (i + 1)) s = delN (l.take i) s := by rw [del_next hi, if_neg h2, List.append_nil]
      exact ⟨(i + 1, q), ⟨by show i + 1 ≤ _; omega, by show PC 2 q (delN (l.take (i + 1)) s).length (nmR (delN (l.take (i + 1)) s)); rw [e9]; exact hq⟩, by show l.length - (i + 1) < l.length - i; omega, ⟨rfl, rfl, (by show _ = some (pV q (delN (l.take (i + 1)) s).length); rw [e9]; rfl), rfl, trivial⟩, (by show List.Sublist (pM 96 q (nmR (delN (l.take (i + 1)) s))) _; rw [e9]; exact List.Sublist.refl _), fun f hf => hf, rfl⟩
  ·
    first | (have h1 := of_decide_eq_true h1) | (have h1 := of_decide_eq_false h1) | skip
    obtain rfl : i = l.length := by omega
    rw [List.take_length] at hq
    refine J_exit ?_
    change J _ _ _ _
    refine J_seq ?_
    refine J_region ?_
    refine L_v rfl rfl rfl (V_move rfl rfl) ?_
    refine L_v rfl rfl rfl (V_assign rfl rfl) ?_
    refine L_nil ?_
    change J _ _ _ _
    refine J_ret ?_
    change Kret _ _ _ Exit.ret _
    refine ret1 rfl rfl (RV_t rfl) ?_
    rw [List.take_length] at *
    exact fun w' h => ⟨q, rfl, hq, Upd.of h rfl (Pk.of_sub (List.Sublist.refl _)) (fun f hf => by cases hf) (fun f hf => by cases hf)⟩

end Go.Proofs.YtcbpgnjlbbjieaaDoor
