/- What a law of layer 13 is handed, as plain data. -/
import Derived.Test.YtcdenfkbhefbbaaV12
import Derived.Test.YtcdenfkbhefbbaaSxOpen
import Derived.SizedLaws
set_option linter.unusedVariables false
set_option linter.unusedSimpArgs false
set_option maxRecDepth 100000
namespace Go.Proofs.Ytcdenfkbhefbbaa
open Go.ChangeShapes Go.WideShapes Go.ChangeAt Go.RowKit Go.Sx
def Cap (v : Value) : Prop := ∀ a n c, v = .slice a n c → n ≤ c
/-! ### Cells -/
theorem cutL {α : Type} {cs l : List α} {off n : Nat} (h : (cs.drop off).take n = l) : cs.drop off = l ++ cs.drop (off + n) := by
  rw [← h, ← List.drop_drop, List.take_append_drop]
section
variable {P : Program} {H : Type} {enc : TypeId × Value → H} {W : World} {b0 : Nat} {sp : Nat → Bool} {hd : Bool} {t e : TypeId} {m : Nat} {cs : List Value} {y : DataW H × List MemPlace}
theorem trod_l32 (hu : P.underlying t = some (.array 32 e)) (he : P.underlying e = some (.int .u8)) (hz : P.cellsOf e = 1 ∧ P.cellsOf t = 32) (hf : DataW.trod enc P W b0 sp hd m t cs = some y) : ∃ f : Dg, cs = dg (l32 f) ∧ Byt (l32 f) := by
  obtain ⟨l, rfl, hl, hb⟩ := trod_dg hu he hz hf
  exact ⟨ofL l, by rw [l32_ofL hl], by rw [l32_ofL hl]; exact hb⟩
theorem trod_nums {k : IntKind} (hu : P.underlying t = some (.slice e)) (he : P.underlying e = some (.int k)) (hz : P.cellsOf e = 1) (hf : DataW.trod enc P W b0 sp hd m t cs = some y) :
    ∃ (v : Value) (l : List Int), cs = [v] ∧ SlC 1 W v l.length (l.map (Value.int k)) ∧ Cap v := by
  rcases open_ints hu he hz hf with ⟨hcs, _⟩ | ⟨x, len, cap, zs, hcs, _, hl, hm, hzl, _, hcell, hwz⟩
  · exact ⟨_, [], hcs, .inl ⟨rfl, rfl, none, 0, rfl⟩, fun a n c h => by cases h; exact Nat.le_refl _⟩
  · have hlz : len ≤ zs.length := by rw [hzl]; split <;> omega
    have hlt : (zs.take len).length = len := by rw [List.length_take]; omega
    refine ⟨_, zs.take len, hcs, ?_, fun a n c h => by cases h; exact hl⟩
    rw [hlt]
    by_cases h0 : len = 0
    · subst h0
      exact .inl ⟨rfl, by simp, some x, cap, rfl⟩
    · obtain ⟨b, off, spot⟩ := x
      have hspot : spot = none := by
        have := hcell 0 (by omega)
        simpa [Addr.add] using World.cell?_spot this
      subst hspot
      refine .inr ⟨b, off, cap, rfl, by rw [List.length_map, hlt, Nat.mul_one], fun j y hj => ?_⟩
      have hjl : j < len := by
        have := (List.getElem?_eq_some_iff.1 hj).1
        rw [List.length_map, hlt] at this
        exact this
      have := hcell j (by omega)
      rw [add_at] at this
      rw [this]
      rw [List.getElem?_map, List.getElem?_take, if_pos hjl] at hj
      rw [List.getD_eq_getElem?_getD, List.getElem?_eq_getElem (by omega)]
      rw [List.getElem?_eq_getElem (by omega)] at hj
      exact hj
theorem trod_rows {α : Type} {sz : Nat} {f : α → List Value} {good : α → Prop} (hsz : ∀ x, (f x).length = sz + 1) (hz : P.cellsOf e = sz + 1) (hu : P.underlying t = some (.slice e))
    (hel : ∀ (m : Nat) cs y, DataW.trod enc P W b0 sp hd m e cs = some y → ∃ x : α, cs = f x ∧ good x) (hf : DataW.trod enc P W b0 sp hd m t cs = some y) :
    ∃ (v : Value) (l : List α), cs = [v] ∧ SlC (sz + 1) W v l.length (l.map f).flatten ∧ Cap v ∧ ∀ x ∈ l, good x := by
  rcases DataW.trod_slice hu hf with ⟨hcs, _⟩ | ⟨x, len, cap, elems, rest, m, _, hcs, _, hb, hl, hm, hlen, he, _, _⟩
  · exact ⟨_, [], hcs, .inl ⟨rfl, rfl, none, 0, rfl⟩, fun a n c h => by cases h; exact Nat.le_refl _, by simp⟩
  · have key : ∀ i, i < len → ∃ y : α, good y ∧ W.cells? b0 (x.add (i * (sz + 1))) (sz + 1) = some (f y) := by
      intro i hi
      have h1 := he i hi
      rw [List.getElem?_eq_getElem (by omega), hz] at h1
      obtain ⟨cs, hcs, hy⟩ := Option.bind_eq_some_iff.1 h1
      obtain ⟨y, rfl, hg⟩ := hel _ cs _ hy
      exact ⟨y, hg, hcs⟩
    have build : ∀ k, k ≤ len → ∃ l : List α, l.length = k ∧ (∀ y ∈ l, good y) ∧ ∀ i (hi : i < k) y, l[i]? = some y → W.cells? b0 (x.add (i * (sz + 1))) (sz + 1) = some (f y) := by
      intro k
      induction k with
      | zero => exact fun _ => ⟨[], rfl, by simp, fun i hi => by omega⟩
      | succ k ih =>
        intro hk
        obtain ⟨l, h1, h2, h3⟩ := ih (by omega)
        obtain ⟨y, hg, hy⟩ := key k (by omega)
        refine ⟨l ++ [y], by simp [h1], fun z hz => ?_, fun i hi z hz => ?_⟩
        · rcases List.mem_append.1 hz with h4 | h4
          · exact h2 z h4
          · simp only [List.mem_singleton] at h4; subst h4; exact hg
        · by_cases hik : i = k
          · subst hik
            rw [List.getElem?_append_right (by omega), h1, Nat.sub_self] at hz
            simp only [List.getElem?_cons_zero, Option.some.injEq] at hz
            subst hz
            exact hy
          · rw [List.getElem?_append_left (by omega)] at hz
            exact h3 i (by omega) z hz
    obtain ⟨l, hll, hgood, hcell⟩ := build len (Nat.le_refl _)
    refine ⟨_, l, hcs, ?_, fun a n c h => by cases h; exact hl, hgood⟩
    rw [← List.flatMap_def, hll]
    have hfl : ∀ l : List α, (l.flatMap f).length = l.length * (sz + 1) := fun l => by
      induction l with
      | nil => simp
      | cons y l ih => rw [List.flatMap_cons, List.length_append, hsz, ih, List.length_cons, Nat.add_mul, Nat.one_mul, Nat.add_comm]
    by_cases h0 : len = 0
    · subst h0
      have : l = [] := List.eq_nil_of_length_eq_zero hll
      subst this
      exact .inl ⟨rfl, rfl, some x, cap, rfl⟩
    · obtain ⟨b, off, spot⟩ := x
      have hspot : spot = none := by
        have hc0 := hcell 0 (by omega) (l[0]'(by omega)) (by simp)
        have := (World.cells?_some hc0).2.2 0 (by omega)
        rw [List.getElem?_eq_getElem (by rw [hsz]; omega)] at this
        simp only [Nat.zero_mul] at this
        simpa [Addr.add] using World.cell?_spot this
      subst hspot
      refine .inr ⟨b, off, cap, rfl, by rw [hfl, hll], fun j u hj => ?_⟩
      have hjl : j < len * (sz + 1) := by
        have := (List.getElem?_eq_some_iff.1 hj).1
        rwa [hfl, hll] at this
      have hi : j / (sz + 1) < len := by rw [Nat.div_lt_iff_lt_mul (by omega)]; exact hjl
      have hsplit : ∀ (l : List α) (j : Nat) u, (l.flatMap f)[j]? = some u → ∃ y, l[j / (sz + 1)]? = some y ∧ (f y)[j % (sz + 1)]? = some u := fun l => by
        induction l with
        | nil => intro j u h; simp at h
        | cons y l ih =>
          intro j u h
          rw [List.flatMap_cons] at h
          by_cases hjs : j < sz + 1
          · rw [List.getElem?_append_left (by rw [hsz]; exact hjs)] at h
            rw [Nat.div_eq_of_lt hjs, Nat.mod_eq_of_lt hjs]
            exact ⟨y, rfl, h⟩
          · rw [List.getElem?_append_right (by rw [hsz]; omega), hsz] at h
            obtain ⟨z, h5, h6⟩ := ih _ u h
            refine ⟨z, ?_, ?_⟩
            · rw [Nat.div_eq_sub_div (by omega) (by omega)]
              exact h5
            · rw [Nat.mod_eq_sub_mod (by omega)]
              exact h6
      obtain ⟨y, hy, hu'⟩ := hsplit l j u hj
      have hc := (World.cells?_some (hcell _ hi y hy)).2.2 (j % (sz + 1)) (Nat.mod_lt _ (by omega))
      rw [hu'] at hc
      rw [add_add, add_at] at hc
      have hdm := Nat.div_add_mod j (sz + 1)
      rw [Nat.mul_comm] at hdm
      rw [hdm] at hc
      exact hc
end

/-! ### Lengths within the reach -/
theorem w_field {P : Program} {H : Type} {t ft : TypeId} {fs : Array Field} {xs : List (DataW H × List MemPlace)} {p : List MemPlace} {y : DataW H × List MemPlace} (hu : P.underlying t = some (.struct fs)) (hx : y = (.agg (xs.map (·.1)), p)) (hz : ∀ n ∈ y.1.weights P t, n ≤ reachBytes) (i : Nat) {x : DataW H × List MemPlace} (hi : xs[i]? = some x) (hf : (fs.toList.map (·.type))[i]? = some ft) :
    ∀ n ∈ x.1.weights P ft, n ≤ reachBytes := by
  intro n hn
  subst hx
  refine hz n ?_
  simp only [DataW.weights, hu]
  exact DataW.weights_mem_each hf (by rw [List.getElem?_map, hi]; rfl) n hn
theorem w_all {P : Program} {H : Type} {e : TypeId} : ∀ {l : List (DataW H)} {d : DataW H}, d ∈ l → ∀ n ∈ d.weights P e, n ∈ DataW.weightsAll P e l
  | x :: l, d, h, n, hn => by
    simp only [DataW.weightsAll, List.mem_append]
    rcases List.mem_cons.1 h with rfl | h
    · exact .inl hn
    · exact .inr (w_all h n hn)
theorem w_slice {P : Program} {H : Type} {t e : TypeId} {l r : List (DataW H)} (hu : P.underlying t = some (.slice e)) (hz : ∀ n ∈ (DataW.slice l r).weights P t, n ≤ reachBytes) : (l.length + r.length) * P.bytesOf e ≤ reachBytes ∧ ∀ d ∈ l, ∀ n ∈ d.weights P e, n ≤ reachBytes := by
  simp only [DataW.weights, hu, List.mem_cons, List.mem_append] at hz
  exact ⟨hz _ (.inl rfl), fun d hd n hn => hz n (.inr (.inl (w_all hd n hn)))⟩
section
variable {P : Program} {H : Type} {enc : TypeId × Value → H} {W : World} {b0 : Nat} {sp : Nat → Bool} {hd : Bool} {t e : TypeId} {m : Nat} {cs : List Value} {y : DataW H × List MemPlace}
theorem trod_numsW {k : IntKind} (hu : P.underlying t = some (.slice e)) (he : P.underlying e = some (.int k)) (hz : P.cellsOf e = 1) (hf : DataW.trod enc P W b0 sp hd m t cs = some y) (hw : ∀ n ∈ y.1.weights P t, n ≤ reachBytes) :
    ∃ (v : Value) (l : List Int), cs = [v] ∧ SlC 1 W v l.length (l.map (Value.int k)) ∧ Cap v ∧ l.length * P.bytesOf e ≤ reachBytes := by
  obtain ⟨v, l, hcs, hs, hc⟩ := trod_nums hu he hz hf
  refine ⟨v, l, hcs, hs, hc, ?_⟩
  rcases DataW.trod_slice hu hf with ⟨hcs2, _⟩ | ⟨x, len, cap, elems, rest, m, _, hcs2, hy, hb, hl, hm, hlen, he', _, _⟩
  · obtain ⟨a, c, e1⟩ := hs.form
    rw [hcs, e1] at hcs2
    injection hcs2 with h1 _
    injection h1 with _ h2 _
    rw [h2]
    omega
  · obtain ⟨a, c, e1⟩ := hs.form
    rw [hcs, e1] at hcs2
    injection hcs2 with h1 _
    injection h1 with _ h2 _
    subst hy
    have h3 := (w_slice hu hw).1
    rw [List.length_map, List.length_map, hlen, ← h2] at h3
    exact Nat.le_trans (Nat.mul_le_mul_right _ (Nat.le_add_right _ _)) h3
theorem trod_rowsW {α : Type} {sz : Nat} {f : α → List Value} {good : α → Prop} (hsz : ∀ x, (f x).length = sz + 1) (hz : P.cellsOf e = sz + 1) (hu : P.underlying t = some (.slice e))
    (hel : ∀ (m : Nat) cs y, DataW.trod enc P W b0 sp hd m e cs = some y → (∀ n ∈ y.1.weights P e, n ≤ reachBytes) → ∃ x : α, cs = f x ∧ good x) (hf : DataW.trod enc P W b0 sp hd m t cs = some y) (hw : ∀ n ∈ y.1.weights P t, n ≤ reachBytes) :
    ∃ (v : Value) (l : List α), cs = [v] ∧ SlC (sz + 1) W v l.length (l.map f).flatten ∧ Cap v ∧ (∀ x ∈ l, good x) ∧ l.length * P.bytesOf e ≤ reachBytes := by
  rcases DataW.trod_slice hu hf with ⟨hcs, _⟩ | ⟨x, len, cap, elems, rest, m, _, hcs, hy, hb, hl, hm, hlen, he, _, _⟩
  · exact ⟨_, [], hcs, .inl ⟨rfl, rfl, none, 0, rfl⟩, fun a n c h => by cases h; exact Nat.le_refl _, by simp, by simp⟩
  · subst hy
    obtain ⟨hw1, hw2⟩ := w_slice hu hw
    rw [List.length_map, List.length_map, hlen] at hw1
    have key : ∀ i, i < len → ∃ y : α, good y ∧ W.cells? b0 (x.add (i * (sz + 1))) (sz + 1) = some (f y) := by
      intro i hi
      have h1 := he i hi
      rw [List.getElem?_eq_getElem (by omega), hz] at h1
      obtain ⟨cs, hcs, hy⟩ := Option.bind_eq_some_iff.1 h1
      obtain ⟨y, rfl, hg⟩ := hel _ cs _ hy (hw2 _ (List.mem_map.2 ⟨_, List.getElem_mem (by omega), rfl⟩))
      exact ⟨y, hg, hcs⟩
    have build : ∀ k, k ≤ len → ∃ l : List α, l.length = k ∧ (∀ y ∈ l, good y) ∧ ∀ i (hi : i < k) y, l[i]? = some y → W.cells? b0 (x.add (i * (sz + 1))) (sz + 1) = some (f y) := by
      intro k
      induction k with
      | zero => exact fun _ => ⟨[], rfl, by simp, fun i hi => by omega⟩
      | succ k ih =>
        intro hk
        obtain ⟨l, h1, h2, h3⟩ := ih (by omega)
        obtain ⟨y, hg, hy⟩ := key k (by omega)
        refine ⟨l ++ [y], by simp [h1], fun z hz => ?_, fun i hi z hz => ?_⟩
        · rcases List.mem_append.1 hz with h4 | h4
          · exact h2 z h4
          · simp only [List.mem_singleton] at h4; subst h4; exact hg
        · by_cases hik : i = k
          · subst hik
            rw [List.getElem?_append_right (by omega), h1, Nat.sub_self] at hz
            simp only [List.getElem?_cons_zero, Option.some.injEq] at hz
            subst hz
            exact hy
          · rw [List.getElem?_append_left (by omega)] at hz
            exact h3 i (by omega) z hz
    obtain ⟨l, hll, hgood, hcell⟩ := build len (Nat.le_refl _)
    refine ⟨_, l, hcs, ?_, fun a n c h => by cases h; exact hl, hgood, by rw [hll]; exact Nat.le_trans (Nat.mul_le_mul_right _ (Nat.le_add_right _ _)) hw1⟩
    rw [← List.flatMap_def, hll]
    have hfl : ∀ l : List α, (l.flatMap f).length = l.length * (sz + 1) := fun l => by
      induction l with
      | nil => simp
      | cons y l ih => rw [List.flatMap_cons, List.length_append, hsz, ih, List.length_cons, Nat.add_mul, Nat.one_mul, Nat.add_comm]
    by_cases h0 : len = 0
    · subst h0
      have : l = [] := List.eq_nil_of_length_eq_zero hll
      subst this
      exact .inl ⟨rfl, rfl, some x, cap, rfl⟩
    · obtain ⟨b, off, spot⟩ := x
      have hspot : spot = none := by
        have hc0 := hcell 0 (by omega) (l[0]'(by omega)) (by simp)
        have := (World.cells?_some hc0).2.2 0 (by omega)
        rw [List.getElem?_eq_getElem (by rw [hsz]; omega)] at this
        simp only [Nat.zero_mul] at this
        simpa [Addr.add] using World.cell?_spot this
      subst hspot
      refine .inr ⟨b, off, cap, rfl, by rw [hfl, hll], fun j u hj => ?_⟩
      have hjl : j < len * (sz + 1) := by
        have := (List.getElem?_eq_some_iff.1 hj).1
        rwa [hfl, hll] at this
      have hi : j / (sz + 1) < len := by rw [Nat.div_lt_iff_lt_mul (by omega)]; exact hjl
      have hsplit : ∀ (l : List α) (j : Nat) u, (l.flatMap f)[j]? = some u → ∃ y, l[j / (sz + 1)]? = some y ∧ (f y)[j % (sz + 1)]? = some u := fun l => by
        induction l with
        | nil => intro j u h; simp at h
        | cons y l ih =>
          intro j u h
          rw [List.flatMap_cons] at h
          by_cases hjs : j < sz + 1
          · rw [List.getElem?_append_left (by rw [hsz]; exact hjs)] at h
            rw [Nat.div_eq_of_lt hjs, Nat.mod_eq_of_lt hjs]
            exact ⟨y, rfl, h⟩
          · rw [List.getElem?_append_right (by rw [hsz]; omega), hsz] at h
            obtain ⟨z, h5, h6⟩ := ih _ u h
            refine ⟨z, ?_, ?_⟩
            · rw [Nat.div_eq_sub_div (by omega) (by omega)]
              exact h5
            · rw [Nat.mod_eq_sub_mod (by omega)]
              exact h6
      obtain ⟨y, hy, hu'⟩ := hsplit l j u hj
      have hc := (World.cells?_some (hcell _ hi y hy)).2.2 (j % (sz + 1)) (Nat.mod_lt _ (by omega))
      rw [hu'] at hc
      rw [add_add, add_at] at hc
      have hdm := Nat.div_add_mod j (sz + 1)
      rw [Nat.mul_comm] at hdm
      rw [hdm] at hc
      exact hc
end

abbrev I64 (p : Int) : Prop := -9223372036854775808 ≤ p ∧ p ≤ 9223372036854775807
theorem le44 {n : Nat} (h : n * 8 ≤ reachBytes) : n ≤ 17592186044416 := by have : reachBytes = 140737488351232 := rfl; omega
theorem le44e {n b : Nat} (hb : 8 ≤ b) (h : n * b ≤ reachBytes) : n ≤ 17592186044416 := le44 (Nat.le_trans (Nat.mul_le_mul_left _ hb) h)
def EnG (W : World) (p : EnV) : Prop := FA W (enA p) ∧ SzC p.1.2.2.2.2 ∧ I64 p.1.1
def RecG (W : World) (x : Rec) (a b c d : Sp) : Prop := FA W (rcA (x, a, b, c, d)) ∧ (SzC x.2.2.2.1.2.2.2.2 ∧ SzC x.2.2.2.2.2.1.2.2.1) ∧ I64 x.2.2.2.1.1
def SvG (W : World) (x : SvS) (s u : Sp) : Prop := FA W (svF x s u) ∧ SzB x
theorem trod_hd {H : Type} {enc : TypeId × Value → H} {W : World} {b0 : Nat} {sp : Nat → Bool} {hd : Bool} {m : Nat} {cs : List Value} {y : DataW H × List MemPlace} (hf : DataW.trod enc Try.prog W b0 sp hd m 41 cs = some y) (hz : ∀ n ∈ y.1.weights Try.prog 41, n ≤ reachBytes) :
    ∃ (x : Hd), cs = hdV x ∧ True := by
  obtain ⟨xs, m, rfl, hy, hl, hxl, hi⟩ := DataW.trod_struct Try.underlying41 hf
  have z0 : Try.prog.cellsOf 3 = 1 := by kernel_rfl
  have z1 : Try.prog.cellsOf 35 = 32 := by kernel_rfl
  have z2 : Try.prog.cellsOf 35 = 32 := by kernel_rfl
  have zz : Try.prog.cellsOf 41 = 65 := by kernel_rfl
  have hxl2 : xs.length = 3 := hxl
  have h0 := hi 0 _ rfl
  rw [List.getElem?_eq_getElem (by omega)] at h0
  have h1 := hi 1 _ rfl
  rw [List.getElem?_eq_getElem (by omega)] at h1
  have h2 := hi 2 _ rfl
  rw [List.getElem?_eq_getElem (by omega)] at h2
  obtain ⟨p0, e0, _, w0⟩ := DataW.trod_int Try.underlying3 h0
  obtain ⟨p1, e1, t1⟩ := trod_l32 Try.underlying35 Try.underlying5 ⟨by kernel_rfl, by kernel_rfl⟩ h1
  obtain ⟨p2, e2, t2⟩ := trod_l32 Try.underlying35 Try.underlying5 ⟨by kernel_rfl, by kernel_rfl⟩ h2
  refine ⟨(p0, p1, p2), ?_, trivial⟩
  rw [zz] at hl
  have c100 : cs.drop 0 = [.int .i64 p0] ++ cs.drop 1 := cutL (off := 0) (n := 1) (by have h : (cs.drop 0).take (Try.prog.cellsOf 3) = [.int .i64 p0] := e0; rw [z0] at h; exact h)
  have c101 : cs.drop 1 = dg (l32 p1) ++ cs.drop 33 := cutL (off := 1) (n := 32) (by have h : (cs.drop 1).take (Try.prog.cellsOf 35) = dg (l32 p1) := e1; rw [z1] at h; exact h)
  have c102 : cs.drop 33 = dg (l32 p2) ++ cs.drop 65 := cutL (off := 33) (n := 32) (by have h : (cs.drop 33).take (Try.prog.cellsOf 35) = dg (l32 p2) := e2; rw [z2] at h; exact h)
  have c103 : cs.drop 65 = [] := List.drop_eq_nil_of_le (by omega)
  have hh : cs = [.int .i64 p0] ++ (dg (l32 p1) ++ (dg (l32 p2) ++ [])) := (c100.trans (congrArg (_ ++ ·) (c101.trans (congrArg (_ ++ ·) (c102.trans (congrArg (_ ++ ·) c103))))))
  exact hh.trans (by kernel_rfl)
theorem open_hd {H : Type} {enc : TypeId × Value → H} {W : World} {b0 : Nat} {sp : Nat → Bool} {hd : Bool} {base : Nat} {v : Value} {d : DataW H} {q : List MemPlace}
    (hok : Value.okWide Try.prog W .any base 41 v) (h : DataW.Trod enc Try.prog W b0 sp hd 41 v d q) (hz : ∀ n ∈ d.weights Try.prog 41, n ≤ reachBytes) :
    ∃ (x : Hd), v = .agg (hdV x).toArray ∧ True := by
  unfold Value.okWide at hok
  rw [Try.underlying41] at hok
  obtain ⟨cs, rfl, hcs, _⟩ := hok
  obtain ⟨fuel, hf⟩ := h
  obtain ⟨x, hx, h1⟩ := trod_hd hf hz
  refine ⟨x, ?_, h1⟩
  congr 1
  apply Array.ext'
  exact hx
theorem trod_sg {H : Type} {enc : TypeId × Value → H} {W : World} {b0 : Nat} {sp : Nat → Bool} {hd : Bool} {m : Nat} {cs : List Value} {y : DataW H × List MemPlace} (hf : DataW.trod enc Try.prog W b0 sp hd m 43 cs = some y) (hz : ∀ n ∈ y.1.weights Try.prog 43, n ≤ reachBytes) :
    ∃ (x : Sg), cs = sgV x ∧ True := by
  obtain ⟨xs, m, rfl, hy, hl, hxl, hi⟩ := DataW.trod_struct Try.underlying43 hf
  have z0 : Try.prog.cellsOf 41 = 65 := by kernel_rfl
  have z1 : Try.prog.cellsOf 35 = 32 := by kernel_rfl
  have zz : Try.prog.cellsOf 43 = 97 := by kernel_rfl
  have hxl2 : xs.length = 2 := hxl
  have h0 := hi 0 _ rfl
  rw [List.getElem?_eq_getElem (by omega)] at h0
  have h1 := hi 1 _ rfl
  rw [List.getElem?_eq_getElem (by omega)] at h1
  obtain ⟨p0, e0, t0⟩ := trod_hd h0 (w_field Try.underlying43 hy hz 0 (List.getElem?_eq_getElem (by omega)) rfl)
  obtain ⟨p1, e1, t1⟩ := trod_l32 Try.underlying35 Try.underlying5 ⟨by kernel_rfl, by kernel_rfl⟩ h1
  refine ⟨(p0, p1), ?_, trivial⟩
  rw [zz] at hl
  have c100 : cs.drop 0 = hdV p0  ++ cs.drop 65 := cutL (off := 0) (n := 65) (by have h : (cs.drop 0).take (Try.prog.cellsOf 41) = hdV p0  := e0; rw [z0] at h; exact h)
  have c101 : cs.drop 65 = dg (l32 p1) ++ cs.drop 97 := cutL (off := 65) (n := 32) (by have h : (cs.drop 65).take (Try.prog.cellsOf 35) = dg (l32 p1) := e1; rw [z1] at h; exact h)
  have c102 : cs.drop 97 = [] := List.drop_eq_nil_of_le (by omega)
  have hh : cs = hdV p0  ++ (dg (l32 p1) ++ []) := (c100.trans (congrArg (_ ++ ·) (c101.trans (congrArg (_ ++ ·) c102))))
  exact hh.trans (by kernel_rfl)
theorem open_sg {H : Type} {enc : TypeId × Value → H} {W : World} {b0 : Nat} {sp : Nat → Bool} {hd : Bool} {base : Nat} {v : Value} {d : DataW H} {q : List MemPlace}
    (hok : Value.okWide Try.prog W .any base 43 v) (h : DataW.Trod enc Try.prog W b0 sp hd 43 v d q) (hz : ∀ n ∈ d.weights Try.prog 43, n ≤ reachBytes) :
    ∃ (x : Sg), v = .agg (sgV x).toArray ∧ True := by
  unfold Value.okWide at hok
  rw [Try.underlying43] at hok
  obtain ⟨cs, rfl, hcs, _⟩ := hok
  obtain ⟨fuel, hf⟩ := h
  obtain ⟨x, hx, h1⟩ := trod_sg hf hz
  refine ⟨x, ?_, h1⟩
  congr 1
  apply Array.ext'
  exact hx
theorem trod_cmd {H : Type} {enc : TypeId × Value → H} {W : World} {b0 : Nat} {sp : Nat → Bool} {hd : Bool} {m : Nat} {cs : List Value} {y : DataW H × List MemPlace} (hf : DataW.trod enc Try.prog W b0 sp hd m 37 cs = some y) (hz : ∀ n ∈ y.1.weights Try.prog 37, n ≤ reachBytes) :
    ∃ (x : Cmd), cs = cmdV x ∧ True := by
  obtain ⟨xs, m, rfl, hy, hl, hxl, hi⟩ := DataW.trod_struct Try.underlying37 hf
  have z0 : Try.prog.cellsOf 33 = 1 := by kernel_rfl
  have z1 : Try.prog.cellsOf 3 = 1 := by kernel_rfl
  have z2 : Try.prog.cellsOf 3 = 1 := by kernel_rfl
  have z3 : Try.prog.cellsOf 9 = 1 := by kernel_rfl
  have z4 : Try.prog.cellsOf 9 = 1 := by kernel_rfl
  have z5 : Try.prog.cellsOf 3 = 1 := by kernel_rfl
  have z6 : Try.prog.cellsOf 35 = 32 := by kernel_rfl
  have zz : Try.prog.cellsOf 37 = 38 := by kernel_rfl
  have hxl2 : xs.length = 7 := hxl
  have h0 := hi 0 _ rfl
  rw [List.getElem?_eq_getElem (by omega)] at h0
  have h1 := hi 1 _ rfl
  rw [List.getElem?_eq_getElem (by omega)] at h1
  have h2 := hi 2 _ rfl
  rw [List.getElem?_eq_getElem (by omega)] at h2
  have h3 := hi 3 _ rfl
  rw [List.getElem?_eq_getElem (by omega)] at h3
  have h4 := hi 4 _ rfl
  rw [List.getElem?_eq_getElem (by omega)] at h4
  have h5 := hi 5 _ rfl
  rw [List.getElem?_eq_getElem (by omega)] at h5
  have h6 := hi 6 _ rfl
  rw [List.getElem?_eq_getElem (by omega)] at h6
  obtain ⟨p0, e0, _, w0⟩ := DataW.trod_int Try.underlying33 h0
  obtain ⟨p1, e1, _, w1⟩ := DataW.trod_int Try.underlying3 h1
  obtain ⟨p2, e2, _, w2⟩ := DataW.trod_int Try.underlying3 h2
  obtain ⟨p3, e3, _⟩ := DataW.trod_string Try.underlying9 h3
  obtain ⟨p4, e4, _⟩ := DataW.trod_string Try.underlying9 h4
  obtain ⟨p5, e5, _, w5⟩ := DataW.trod_int Try.underlying3 h5
  obtain ⟨p6, e6, t6⟩ := trod_l32 Try.underlying35 Try.underlying5 ⟨by kernel_rfl, by kernel_rfl⟩ h6
  refine ⟨(p0, p1, p2, p3, p4, p5, p6), ?_, trivial⟩
  rw [zz] at hl
  have c100 : cs.drop 0 = [.int .i64 p0] ++ cs.drop 1 := cutL (off := 0) (n := 1) (by have h : (cs.drop 0).take (Try.prog.cellsOf 33) = [.int .i64 p0] := e0; rw [z0] at h; exact h)
  have c101 : cs.drop 1 = [.int .i64 p1] ++ cs.drop 2 := cutL (off := 1) (n := 1) (by have h : (cs.drop 1).take (Try.prog.cellsOf 3) = [.int .i64 p1] := e1; rw [z1] at h; exact h)
  have c102 : cs.drop 2 = [.int .i64 p2] ++ cs.drop 3 := cutL (off := 2) (n := 1) (by have h : (cs.drop 2).take (Try.prog.cellsOf 3) = [.int .i64 p2] := e2; rw [z2] at h; exact h)
  have c103 : cs.drop 3 = [.string p3] ++ cs.drop 4 := cutL (off := 3) (n := 1) (by have h : (cs.drop 3).take (Try.prog.cellsOf 9) = [.string p3] := e3; rw [z3] at h; exact h)
  have c104 : cs.drop 4 = [.string p4] ++ cs.drop 5 := cutL (off := 4) (n := 1) (by have h : (cs.drop 4).take (Try.prog.cellsOf 9) = [.string p4] := e4; rw [z4] at h; exact h)
  have c105 : cs.drop 5 = [.int .i64 p5] ++ cs.drop 6 := cutL (off := 5) (n := 1) (by have h : (cs.drop 5).take (Try.prog.cellsOf 3) = [.int .i64 p5] := e5; rw [z5] at h; exact h)
  have c106 : cs.drop 6 = dg (l32 p6) ++ cs.drop 38 := cutL (off := 6) (n := 32) (by have h : (cs.drop 6).take (Try.prog.cellsOf 35) = dg (l32 p6) := e6; rw [z6] at h; exact h)
  have c107 : cs.drop 38 = [] := List.drop_eq_nil_of_le (by omega)
  have hh : cs = [.int .i64 p0] ++ ([.int .i64 p1] ++ ([.int .i64 p2] ++ ([.string p3] ++ ([.string p4] ++ ([.int .i64 p5] ++ (dg (l32 p6) ++ [])))))) := (c100.trans (congrArg (_ ++ ·) (c101.trans (congrArg (_ ++ ·) (c102.trans (congrArg (_ ++ ·) (c103.trans (congrArg (_ ++ ·) (c104.trans (congrArg (_ ++ ·) (c105.trans (congrArg (_ ++ ·) (c106.trans (congrArg (_ ++ ·) c107))))))))))))))
  exact hh.trans (by kernel_rfl)
theorem open_cmd {H : Type} {enc : TypeId × Value → H} {W : World} {b0 : Nat} {sp : Nat → Bool} {hd : Bool} {base : Nat} {v : Value} {d : DataW H} {q : List MemPlace}
    (hok : Value.okWide Try.prog W .any base 37 v) (h : DataW.Trod enc Try.prog W b0 sp hd 37 v d q) (hz : ∀ n ∈ d.weights Try.prog 37, n ≤ reachBytes) :
    ∃ (x : Cmd), v = .agg (cmdV x).toArray ∧ True := by
  unfold Value.okWide at hok
  rw [Try.underlying37] at hok
  obtain ⟨cs, rfl, hcs, _⟩ := hok
  obtain ⟨fuel, hf⟩ := h
  obtain ⟨x, hx, h1⟩ := trod_cmd hf hz
  refine ⟨x, ?_, h1⟩
  congr 1
  apply Array.ext'
  exact hx
theorem by_3 : Try.prog.bytesOf 3 = 8 := by kernel_rfl
theorem trod_cl {H : Type} {enc : TypeId × Value → H} {W : World} {b0 : Nat} {sp : Nat → Bool} {hd : Bool} {m : Nat} {cs : List Value} {y : DataW H × List MemPlace} (hf : DataW.trod enc Try.prog W b0 sp hd m 24 cs = some y) (hz : ∀ n ∈ y.1.weights Try.prog 24, n ≤ reachBytes) :
    ∃ (x : Cl) (a b : Sp), cs = clX x a b ∧ FA W (clA x a b) ∧ SzC x := by
  obtain ⟨xs, m, rfl, hy, hl, hxl, hi⟩ := DataW.trod_struct Try.underlying24 hf
  have z0 : Try.prog.cellsOf 22 = 1 := by kernel_rfl
  have z1 : Try.prog.cellsOf 22 = 1 := by kernel_rfl
  have zz : Try.prog.cellsOf 24 = 2 := by kernel_rfl
  have hxl2 : xs.length = 2 := hxl
  have h0 := hi 0 _ rfl
  rw [List.getElem?_eq_getElem (by omega)] at h0
  have h1 := hi 1 _ rfl
  rw [List.getElem?_eq_getElem (by omega)] at h1
  obtain ⟨v0, p0, e0, s0, _, l0⟩ := trod_numsW Try.underlying22 Try.underlying3 (by kernel_rfl) h0 (w_field Try.underlying24 hy hz 0 (List.getElem?_eq_getElem (by omega)) rfl)
  rw [by_3] at l0
  obtain ⟨a0, c0, rfl⟩ := s0.form
  obtain ⟨v1, p1, e1, s1, _, l1⟩ := trod_numsW Try.underlying22 Try.underlying3 (by kernel_rfl) h1 (w_field Try.underlying24 hy hz 1 (List.getElem?_eq_getElem (by omega)) rfl)
  rw [by_3] at l1
  obtain ⟨a1, c1, rfl⟩ := s1.form
  refine ⟨(p0, p1), (a0, c0), (a1, c1), ?_, ⟨.and (.slc s0) (.slc s1), le44 l0, le44 l1⟩⟩
  rw [zz] at hl
  have c100 : cs.drop 0 = [.slice a0 p0.length c0] ++ cs.drop 1 := cutL (off := 0) (n := 1) (by have h : (cs.drop 0).take (Try.prog.cellsOf 22) = [.slice a0 p0.length c0] := e0; rw [z0] at h; exact h)
  have c101 : cs.drop 1 = [.slice a1 p1.length c1] ++ cs.drop 2 := cutL (off := 1) (n := 1) (by have h : (cs.drop 1).take (Try.prog.cellsOf 22) = [.slice a1 p1.length c1] := e1; rw [z1] at h; exact h)
  have c102 : cs.drop 2 = [] := List.drop_eq_nil_of_le (by omega)
  have hh : cs = [.slice a0 p0.length c0] ++ ([.slice a1 p1.length c1] ++ []) := (c100.trans (congrArg (_ ++ ·) (c101.trans (congrArg (_ ++ ·) c102))))
  exact hh.trans (by kernel_rfl)
theorem open_cl {H : Type} {enc : TypeId × Value → H} {W : World} {b0 : Nat} {sp : Nat → Bool} {hd : Bool} {base : Nat} {v : Value} {d : DataW H} {q : List MemPlace}
    (hok : Value.okWide Try.prog W .any base 24 v) (h : DataW.Trod enc Try.prog W b0 sp hd 24 v d q) (hz : ∀ n ∈ d.weights Try.prog 24, n ≤ reachBytes) :
    ∃ (x : Cl) (a b : Sp), v = .agg (clX x a b).toArray ∧ FA W (clA x a b) ∧ SzC x := by
  unfold Value.okWide at hok
  rw [Try.underlying24] at hok
  obtain ⟨cs, rfl, hcs, _⟩ := hok
  obtain ⟨fuel, hf⟩ := h
  obtain ⟨x, a, b, hx, h1⟩ := trod_cl hf hz
  refine ⟨x, a, b, ?_, h1⟩
  congr 1
  apply Array.ext'
  exact hx
theorem trod_en {H : Type} {enc : TypeId × Value → H} {W : World} {b0 : Nat} {sp : Nat → Bool} {hd : Bool} {m : Nat} {cs : List Value} {y : DataW H × List MemPlace} (hf : DataW.trod enc Try.prog W b0 sp hd m 39 cs = some y) (hz : ∀ n ∈ y.1.weights Try.prog 39, n ≤ reachBytes) :
    ∃ (x : EnV), cs = enW x ∧ EnG W x := by
  obtain ⟨xs, m, rfl, hy, hl, hxl, hi⟩ := DataW.trod_struct Try.underlying39 hf
  have z0 : Try.prog.cellsOf 3 = 1 := by kernel_rfl
  have z1 : Try.prog.cellsOf 3 = 1 := by kernel_rfl
  have z2 : Try.prog.cellsOf 32 = 1 := by kernel_rfl
  have z3 : Try.prog.cellsOf 37 = 38 := by kernel_rfl
  have z4 : Try.prog.cellsOf 24 = 2 := by kernel_rfl
  have zz : Try.prog.cellsOf 39 = 43 := by kernel_rfl
  have hxl2 : xs.length = 5 := hxl
  have h0 := hi 0 _ rfl
  rw [List.getElem?_eq_getElem (by omega)] at h0
  have h1 := hi 1 _ rfl
  rw [List.getElem?_eq_getElem (by omega)] at h1
  have h2 := hi 2 _ rfl
  rw [List.getElem?_eq_getElem (by omega)] at h2
  have h3 := hi 3 _ rfl
  rw [List.getElem?_eq_getElem (by omega)] at h3
  have h4 := hi 4 _ rfl
  rw [List.getElem?_eq_getElem (by omega)] at h4
  obtain ⟨p0, e0, _, w0⟩ := DataW.trod_int Try.underlying3 h0
  obtain ⟨p1, e1, _, w1⟩ := DataW.trod_int Try.underlying3 h1
  obtain ⟨p2, e2, _, w2⟩ := DataW.trod_int Try.underlying32 h2
  obtain ⟨p3, e3, t3⟩ := trod_cmd h3 (w_field Try.underlying39 hy hz 3 (List.getElem?_eq_getElem (by omega)) rfl)
  obtain ⟨p4, a4, b4, e4, t4⟩ := trod_cl h4 (w_field Try.underlying39 hy hz 4 (List.getElem?_eq_getElem (by omega)) rfl)
  refine ⟨((p0, p1, p2, p3, p4), a4, b4), ?_, ⟨t4.1, t4.2, bounds_i64 w0⟩⟩
  rw [zz] at hl
  have c100 : cs.drop 0 = [.int .i64 p0] ++ cs.drop 1 := cutL (off := 0) (n := 1) (by have h : (cs.drop 0).take (Try.prog.cellsOf 3) = [.int .i64 p0] := e0; rw [z0] at h; exact h)
  have c101 : cs.drop 1 = [.int .i64 p1] ++ cs.drop 2 := cutL (off := 1) (n := 1) (by have h : (cs.drop 1).take (Try.prog.cellsOf 3) = [.int .i64 p1] := e1; rw [z1] at h; exact h)
  have c102 : cs.drop 2 = [.int .i64 p2] ++ cs.drop 3 := cutL (off := 2) (n := 1) (by have h : (cs.drop 2).take (Try.prog.cellsOf 32) = [.int .i64 p2] := e2; rw [z2] at h; exact h)
  have c103 : cs.drop 3 = cmdV p3  ++ cs.drop 41 := cutL (off := 3) (n := 38) (by have h : (cs.drop 3).take (Try.prog.cellsOf 37) = cmdV p3  := e3; rw [z3] at h; exact h)
  have c104 : cs.drop 41 = clX p4 a4 b4 ++ cs.drop 43 := cutL (off := 41) (n := 2) (by have h : (cs.drop 41).take (Try.prog.cellsOf 24) = clX p4 a4 b4 := e4; rw [z4] at h; exact h)
  have c105 : cs.drop 43 = [] := List.drop_eq_nil_of_le (by omega)
  have hh : cs = [.int .i64 p0] ++ ([.int .i64 p1] ++ ([.int .i64 p2] ++ (cmdV p3  ++ (clX p4 a4 b4 ++ [])))) := (c100.trans (congrArg (_ ++ ·) (c101.trans (congrArg (_ ++ ·) (c102.trans (congrArg (_ ++ ·) (c103.trans (congrArg (_ ++ ·) (c104.trans (congrArg (_ ++ ·) c105))))))))))
  exact hh.trans (by kernel_rfl)
theorem open_en {H : Type} {enc : TypeId × Value → H} {W : World} {b0 : Nat} {sp : Nat → Bool} {hd : Bool} {base : Nat} {v : Value} {d : DataW H} {q : List MemPlace}
    (hok : Value.okWide Try.prog W .any base 39 v) (h : DataW.Trod enc Try.prog W b0 sp hd 39 v d q) (hz : ∀ n ∈ d.weights Try.prog 39, n ≤ reachBytes) :
    ∃ (x : EnV), v = .agg (enW x).toArray ∧ EnG W x := by
  unfold Value.okWide at hok
  rw [Try.underlying39] at hok
  obtain ⟨cs, rfl, hcs, _⟩ := hok
  obtain ⟨fuel, hf⟩ := h
  obtain ⟨x, hx, h1⟩ := trod_en hf hz
  refine ⟨x, ?_, h1⟩
  congr 1
  apply Array.ext'
  exact hx
theorem trod_sn {H : Type} {enc : TypeId × Value → H} {W : World} {b0 : Nat} {sp : Nat → Bool} {hd : Bool} {m : Nat} {cs : List Value} {y : DataW H × List MemPlace} (hf : DataW.trod enc Try.prog W b0 sp hd m 26 cs = some y) (hz : ∀ n ∈ y.1.weights Try.prog 26, n ≤ reachBytes) :
    ∃ (x : Sn) (a b : Sp), cs = snX x a b ∧ FA W (clA x.2.2.1 a b) ∧ SzC x.2.2.1 := by
  obtain ⟨xs, m, rfl, hy, hl, hxl, hi⟩ := DataW.trod_struct Try.underlying26 hf
  have z0 : Try.prog.cellsOf 3 = 1 := by kernel_rfl
  have z1 : Try.prog.cellsOf 3 = 1 := by kernel_rfl
  have z2 : Try.prog.cellsOf 24 = 2 := by kernel_rfl
  have z3 : Try.prog.cellsOf 9 = 1 := by kernel_rfl
  have zz : Try.prog.cellsOf 26 = 5 := by kernel_rfl
  have hxl2 : xs.length = 4 := hxl
  have h0 := hi 0 _ rfl
  rw [List.getElem?_eq_getElem (by omega)] at h0
  have h1 := hi 1 _ rfl
  rw [List.getElem?_eq_getElem (by omega)] at h1
  have h2 := hi 2 _ rfl
  rw [List.getElem?_eq_getElem (by omega)] at h2
  have h3 := hi 3 _ rfl
  rw [List.getElem?_eq_getElem (by omega)] at h3
  obtain ⟨p0, e0, _, w0⟩ := DataW.trod_int Try.underlying3 h0
  obtain ⟨p1, e1, _, w1⟩ := DataW.trod_int Try.underlying3 h1
  obtain ⟨p2, a2, b2, e2, t2⟩ := trod_cl h2 (w_field Try.underlying26 hy hz 2 (List.getElem?_eq_getElem (by omega)) rfl)
  obtain ⟨p3, e3, _⟩ := DataW.trod_string Try.underlying9 h3
  refine ⟨(p0, p1, p2, p3), a2, b2, ?_, t2⟩
  rw [zz] at hl
  have c100 : cs.drop 0 = [.int .i64 p0] ++ cs.drop 1 := cutL (off := 0) (n := 1) (by have h : (cs.drop 0).take (Try.prog.cellsOf 3) = [.int .i64 p0] := e0; rw [z0] at h; exact h)
  have c101 : cs.drop 1 = [.int .i64 p1] ++ cs.drop 2 := cutL (off := 1) (n := 1) (by have h : (cs.drop 1).take (Try.prog.cellsOf 3) = [.int .i64 p1] := e1; rw [z1] at h; exact h)
  have c102 : cs.drop 2 = clX p2 a2 b2 ++ cs.drop 4 := cutL (off := 2) (n := 2) (by have h : (cs.drop 2).take (Try.prog.cellsOf 24) = clX p2 a2 b2 := e2; rw [z2] at h; exact h)
  have c103 : cs.drop 4 = [.string p3] ++ cs.drop 5 := cutL (off := 4) (n := 1) (by have h : (cs.drop 4).take (Try.prog.cellsOf 9) = [.string p3] := e3; rw [z3] at h; exact h)
  have c104 : cs.drop 5 = [] := List.drop_eq_nil_of_le (by omega)
  have hh : cs = [.int .i64 p0] ++ ([.int .i64 p1] ++ (clX p2 a2 b2 ++ ([.string p3] ++ []))) := (c100.trans (congrArg (_ ++ ·) (c101.trans (congrArg (_ ++ ·) (c102.trans (congrArg (_ ++ ·) (c103.trans (congrArg (_ ++ ·) c104))))))))
  exact hh.trans (by kernel_rfl)
theorem open_sn {H : Type} {enc : TypeId × Value → H} {W : World} {b0 : Nat} {sp : Nat → Bool} {hd : Bool} {base : Nat} {v : Value} {d : DataW H} {q : List MemPlace}
    (hok : Value.okWide Try.prog W .any base 26 v) (h : DataW.Trod enc Try.prog W b0 sp hd 26 v d q) (hz : ∀ n ∈ d.weights Try.prog 26, n ≤ reachBytes) :
    ∃ (x : Sn) (a b : Sp), v = .agg (snX x a b).toArray ∧ FA W (clA x.2.2.1 a b) ∧ SzC x.2.2.1 := by
  unfold Value.okWide at hok
  rw [Try.underlying26] at hok
  obtain ⟨cs, rfl, hcs, _⟩ := hok
  obtain ⟨fuel, hf⟩ := h
  obtain ⟨x, a, b, hx, h1⟩ := trod_sn hf hz
  refine ⟨x, a, b, ?_, h1⟩
  congr 1
  apply Array.ext'
  exact hx
theorem trod_rec {H : Type} {enc : TypeId × Value → H} {W : World} {b0 : Nat} {sp : Nat → Bool} {hd : Bool} {m : Nat} {cs : List Value} {y : DataW H × List MemPlace} (hf : DataW.trod enc Try.prog W b0 sp hd m 45 cs = some y) (hz : ∀ n ∈ y.1.weights Try.prog 45, n ≤ reachBytes) :
    ∃ (x : Rec) (a b c d : Sp), cs = recX x a b c d ∧ RecG W x a b c d := by
  obtain ⟨xs, m, rfl, hy, hl, hxl, hi⟩ := DataW.trod_struct Try.underlying45 hf
  have z0 : Try.prog.cellsOf 31 = 1 := by kernel_rfl
  have z1 : Try.prog.cellsOf 3 = 1 := by kernel_rfl
  have z2 : Try.prog.cellsOf 3 = 1 := by kernel_rfl
  have z3 : Try.prog.cellsOf 39 = 43 := by kernel_rfl
  have z4 : Try.prog.cellsOf 3 = 1 := by kernel_rfl
  have z5 : Try.prog.cellsOf 26 = 5 := by kernel_rfl
  have z6 : Try.prog.cellsOf 43 = 97 := by kernel_rfl
  have zz : Try.prog.cellsOf 45 = 149 := by kernel_rfl
  have hxl2 : xs.length = 7 := hxl
  have h0 := hi 0 _ rfl
  rw [List.getElem?_eq_getElem (by omega)] at h0
  have h1 := hi 1 _ rfl
  rw [List.getElem?_eq_getElem (by omega)] at h1
  have h2 := hi 2 _ rfl
  rw [List.getElem?_eq_getElem (by omega)] at h2
  have h3 := hi 3 _ rfl
  rw [List.getElem?_eq_getElem (by omega)] at h3
  have h4 := hi 4 _ rfl
  rw [List.getElem?_eq_getElem (by omega)] at h4
  have h5 := hi 5 _ rfl
  rw [List.getElem?_eq_getElem (by omega)] at h5
  have h6 := hi 6 _ rfl
  rw [List.getElem?_eq_getElem (by omega)] at h6
  obtain ⟨p0, e0, _, w0⟩ := DataW.trod_int Try.underlying31 h0
  obtain ⟨p1, e1, _, w1⟩ := DataW.trod_int Try.underlying3 h1
  obtain ⟨p2, e2, _, w2⟩ := DataW.trod_int Try.underlying3 h2
  obtain ⟨p3, e3, t3⟩ := trod_en h3 (w_field Try.underlying45 hy hz 3 (List.getElem?_eq_getElem (by omega)) rfl)
  obtain ⟨p4, e4, _, w4⟩ := DataW.trod_int Try.underlying3 h4
  obtain ⟨p5, a5, b5, e5, t5⟩ := trod_sn h5 (w_field Try.underlying45 hy hz 5 (List.getElem?_eq_getElem (by omega)) rfl)
  obtain ⟨p6, e6, t6⟩ := trod_sg h6 (w_field Try.underlying45 hy hz 6 (List.getElem?_eq_getElem (by omega)) rfl)
  refine ⟨(p0, p1, p2, p3.1, p4, p5, p6), p3.2.1, p3.2.2, a5, b5, ?_, ⟨.and t3.1 t5.1, ⟨t3.2.1, t5.2⟩, t3.2.2⟩⟩
  rw [zz] at hl
  have c100 : cs.drop 0 = [.int .i64 p0] ++ cs.drop 1 := cutL (off := 0) (n := 1) (by have h : (cs.drop 0).take (Try.prog.cellsOf 31) = [.int .i64 p0] := e0; rw [z0] at h; exact h)
  have c101 : cs.drop 1 = [.int .i64 p1] ++ cs.drop 2 := cutL (off := 1) (n := 1) (by have h : (cs.drop 1).take (Try.prog.cellsOf 3) = [.int .i64 p1] := e1; rw [z1] at h; exact h)
  have c102 : cs.drop 2 = [.int .i64 p2] ++ cs.drop 3 := cutL (off := 2) (n := 1) (by have h : (cs.drop 2).take (Try.prog.cellsOf 3) = [.int .i64 p2] := e2; rw [z2] at h; exact h)
  have c103 : cs.drop 3 = enW p3  ++ cs.drop 46 := cutL (off := 3) (n := 43) (by have h : (cs.drop 3).take (Try.prog.cellsOf 39) = enW p3  := e3; rw [z3] at h; exact h)
  have c104 : cs.drop 46 = [.int .i64 p4] ++ cs.drop 47 := cutL (off := 46) (n := 1) (by have h : (cs.drop 46).take (Try.prog.cellsOf 3) = [.int .i64 p4] := e4; rw [z4] at h; exact h)
  have c105 : cs.drop 47 = snX p5 a5 b5 ++ cs.drop 52 := cutL (off := 47) (n := 5) (by have h : (cs.drop 47).take (Try.prog.cellsOf 26) = snX p5 a5 b5 := e5; rw [z5] at h; exact h)
  have c106 : cs.drop 52 = sgV p6  ++ cs.drop 149 := cutL (off := 52) (n := 97) (by have h : (cs.drop 52).take (Try.prog.cellsOf 43) = sgV p6  := e6; rw [z6] at h; exact h)
  have c107 : cs.drop 149 = [] := List.drop_eq_nil_of_le (by omega)
  have hh : cs = [.int .i64 p0] ++ ([.int .i64 p1] ++ ([.int .i64 p2] ++ (enW p3  ++ ([.int .i64 p4] ++ (snX p5 a5 b5 ++ (sgV p6  ++ [])))))) := (c100.trans (congrArg (_ ++ ·) (c101.trans (congrArg (_ ++ ·) (c102.trans (congrArg (_ ++ ·) (c103.trans (congrArg (_ ++ ·) (c104.trans (congrArg (_ ++ ·) (c105.trans (congrArg (_ ++ ·) (c106.trans (congrArg (_ ++ ·) c107))))))))))))))
  exact hh.trans (by kernel_rfl)
theorem open_rec {H : Type} {enc : TypeId × Value → H} {W : World} {b0 : Nat} {sp : Nat → Bool} {hd : Bool} {base : Nat} {v : Value} {d : DataW H} {q : List MemPlace}
    (hok : Value.okWide Try.prog W .any base 45 v) (h : DataW.Trod enc Try.prog W b0 sp hd 45 v d q) (hz : ∀ n ∈ d.weights Try.prog 45, n ≤ reachBytes) :
    ∃ (x : Rec) (a b c d : Sp), v = .agg (recX x a b c d).toArray ∧ RecG W x a b c d := by
  unfold Value.okWide at hok
  rw [Try.underlying45] at hok
  obtain ⟨cs, rfl, hcs, _⟩ := hok
  obtain ⟨fuel, hf⟩ := h
  obtain ⟨x, a, b, c, d, hx, h1⟩ := trod_rec hf hz
  refine ⟨x, a, b, c, d, ?_, h1⟩
  congr 1
  apply Array.ext'
  exact hx
theorem by_39 : Try.prog.bytesOf 39 = 168 := by kernel_rfl
theorem by_43 : Try.prog.bytesOf 43 = 104 := by kernel_rfl
theorem trod_sv {H : Type} {enc : TypeId × Value → H} {W : World} {b0 : Nat} {sp : Nat → Bool} {hd : Bool} {m : Nat} {cs : List Value} {y : DataW H × List MemPlace} (hf : DataW.trod enc Try.prog W b0 sp hd m 30 cs = some y) (hz : ∀ n ∈ y.1.weights Try.prog 30, n ≤ reachBytes) :
    ∃ (x : SvS) (s u : Sp), cs = svX x s u ∧ SvG W x s u := by
  obtain ⟨xs, m, rfl, hy, hl, hxl, hi⟩ := DataW.trod_struct Try.underlying30 hf
  have z0 : Try.prog.cellsOf 3 = 1 := by kernel_rfl
  have z1 : Try.prog.cellsOf 3 = 1 := by kernel_rfl
  have z2 : Try.prog.cellsOf 26 = 5 := by kernel_rfl
  have z3 : Try.prog.cellsOf 27 = 1 := by kernel_rfl
  have z4 : Try.prog.cellsOf 28 = 1 := by kernel_rfl
  have zz : Try.prog.cellsOf 30 = 9 := by kernel_rfl
  have hxl2 : xs.length = 5 := hxl
  have h0 := hi 0 _ rfl
  rw [List.getElem?_eq_getElem (by omega)] at h0
  have h1 := hi 1 _ rfl
  rw [List.getElem?_eq_getElem (by omega)] at h1
  have h2 := hi 2 _ rfl
  rw [List.getElem?_eq_getElem (by omega)] at h2
  have h3 := hi 3 _ rfl
  rw [List.getElem?_eq_getElem (by omega)] at h3
  have h4 := hi 4 _ rfl
  rw [List.getElem?_eq_getElem (by omega)] at h4
  obtain ⟨p0, e0, _, w0⟩ := DataW.trod_int Try.underlying3 h0
  obtain ⟨p1, e1, _, w1⟩ := DataW.trod_int Try.underlying3 h1
  obtain ⟨p2, a2, b2, e2, t2⟩ := trod_sn h2 (w_field Try.underlying30 hy hz 2 (List.getElem?_eq_getElem (by omega)) rfl)
  obtain ⟨v3, p3, e3, s3, _, g3, l3⟩ := trod_rowsW (f := enW) (sz := 42) (good := (EnG W)) (fun _ => rfl) (by kernel_rfl) Try.underlying27 (fun m cs y hy hq => trod_en hy hq) h3 (w_field Try.underlying30 hy hz 3 (List.getElem?_eq_getElem (by omega)) rfl)
  rw [by_39] at l3
  obtain ⟨a3, c3, rfl⟩ := s3.form
  obtain ⟨v4, p4, e4, s4, _, g4, l4⟩ := trod_rowsW (f := sgV) (sz := 96) (good := (fun _ => True)) (fun _ => rfl) (by kernel_rfl) Try.underlying28 (fun m cs y hy hq => trod_sg hy hq) h4 (w_field Try.underlying30 hy hz 4 (List.getElem?_eq_getElem (by omega)) rfl)
  rw [by_43] at l4
  obtain ⟨a4, c4, rfl⟩ := s4.form
  refine ⟨⟨p0, p1, p2, a2, b2, p3, p4⟩, (a3, c3), (a4, c4), ?_, ⟨.and t2.1 (.and (.and (.slc s3) (.all fun f hf => by obtain ⟨e, he, rfl⟩ := List.mem_map.1 hf; exact (g3 e he).1)) (.slc s4)), t2.2, fun e he => (g3 e he).2.1, le44e (by decide) l3, le44e (by decide) l4, fun e he => (g3 e he).2.2⟩⟩
  rw [zz] at hl
  have c100 : cs.drop 0 = [.int .i64 p0] ++ cs.drop 1 := cutL (off := 0) (n := 1) (by have h : (cs.drop 0).take (Try.prog.cellsOf 3) = [.int .i64 p0] := e0; rw [z0] at h; exact h)
  have c101 : cs.drop 1 = [.int .i64 p1] ++ cs.drop 2 := cutL (off := 1) (n := 1) (by have h : (cs.drop 1).take (Try.prog.cellsOf 3) = [.int .i64 p1] := e1; rw [z1] at h; exact h)
  have c102 : cs.drop 2 = snX p2 a2 b2 ++ cs.drop 7 := cutL (off := 2) (n := 5) (by have h : (cs.drop 2).take (Try.prog.cellsOf 26) = snX p2 a2 b2 := e2; rw [z2] at h; exact h)
  have c103 : cs.drop 7 = [.slice a3 p3.length c3] ++ cs.drop 8 := cutL (off := 7) (n := 1) (by have h : (cs.drop 7).take (Try.prog.cellsOf 27) = [.slice a3 p3.length c3] := e3; rw [z3] at h; exact h)
  have c104 : cs.drop 8 = [.slice a4 p4.length c4] ++ cs.drop 9 := cutL (off := 8) (n := 1) (by have h : (cs.drop 8).take (Try.prog.cellsOf 28) = [.slice a4 p4.length c4] := e4; rw [z4] at h; exact h)
  have c105 : cs.drop 9 = [] := List.drop_eq_nil_of_le (by omega)
  have hh : cs = [.int .i64 p0] ++ ([.int .i64 p1] ++ (snX p2 a2 b2 ++ ([.slice a3 p3.length c3] ++ ([.slice a4 p4.length c4] ++ [])))) := (c100.trans (congrArg (_ ++ ·) (c101.trans (congrArg (_ ++ ·) (c102.trans (congrArg (_ ++ ·) (c103.trans (congrArg (_ ++ ·) (c104.trans (congrArg (_ ++ ·) c105))))))))))
  exact hh.trans (by kernel_rfl)
theorem open_sv {H : Type} {enc : TypeId × Value → H} {W : World} {b0 : Nat} {sp : Nat → Bool} {hd : Bool} {base : Nat} {v : Value} {d : DataW H} {q : List MemPlace}
    (hok : Value.okWide Try.prog W .any base 30 v) (h : DataW.Trod enc Try.prog W b0 sp hd 30 v d q) (hz : ∀ n ∈ d.weights Try.prog 30, n ≤ reachBytes) :
    ∃ (x : SvS) (s u : Sp), v = .agg (svX x s u).toArray ∧ SvG W x s u := by
  unfold Value.okWide at hok
  rw [Try.underlying30] at hok
  obtain ⟨cs, rfl, hcs, _⟩ := hok
  obtain ⟨fuel, hf⟩ := h
  obtain ⟨x, s, u, hx, h1⟩ := trod_sv hf hz
  refine ⟨x, s, u, ?_, h1⟩
  congr 1
  apply Array.ext'
  exact hx
end Go.Proofs.Ytcdenfkbhefbbaa
