/- What a law of layer 8 is handed, as plain data. -/
import Derived.Test.YtfgcfjojpakpjaaGreatWGets2
import Derived.Test.YtfgcfjojpakpjaaGreatSxOpen
set_option linter.unusedVariables false
set_option linter.unusedSimpArgs false
set_option maxRecDepth 100000
namespace Go.Proofs.YtfgcfjojpakpjaaGreat
open Go.ChangeShapes Go.WideShapes Go.ChangeAt Go.RowKit Go.Sx
/-! ### Numbers that are octets -/
def TokB : Tok → Prop
  | .d f => Byt (l32 f)
  | _ => True
abbrev TB {α : Type} (a : Cdc α) (x : α) : Prop := ∀ t ∈ a.tk x, TokB t
theorem TB.c (x : Int) : TB cC x := by intro t ht; obtain rfl := List.mem_singleton.1 ht; trivial
theorem TB.s (x : ByteArray) : TB sC x := by intro t ht; obtain rfl := List.mem_singleton.1 ht; trivial
theorem TB.d {x : Dg} (h : Byt (l32 x)) : TB dC x := by intro t ht; obtain rfl := List.mem_singleton.1 ht; exact h
theorem TB.pr {α β : Type} {a : Cdc α} {b : Cdc β} {x : α} {y : β} (h1 : TB a x) (h2 : TB b y) : TB (pr a b) (x, y) := by
  intro t ht
  rcases List.mem_append.1 ht with h | h
  · exact h1 t h
  · exact h2 t h
theorem TB.ls {α : Type} {a : Cdc α} {l : List α} (h : ∀ y ∈ l, TB a y) : TB (ls a) l := by
  intro t ht
  rcases List.mem_cons.1 ht with rfl | ht
  · trivial
  · obtain ⟨y, hy, ht⟩ := List.mem_flatMap.1 ht
    exact h y hy t ht
theorem encT_byt {t : Tok} {M : List Int} (h : TokB t) (hM : encT t = .ok M) : Byt M := by
  cases t with
  | c n =>
    simp only [encT] at hM
    split at hM
    · obtain rfl := Except.ok.inj hM; exact grp_byt (by omega) (by omega)
    · cases hM
  | s x =>
    simp only [encT] at hM
    split at hM
    · obtain rfl := Except.ok.inj hM; exact (grp_byt (by omega) (by omega)).append (bs_byt x)
    · cases hM
  | d f => obtain rfl := Except.ok.inj hM; exact h
  | ln n =>
    simp only [encT] at hM
    split at hM
    · obtain rfl := Except.ok.inj hM; exact grp_byt (by omega) (by omega)
    · cases hM
theorem encTs_byt : ∀ {l : List Tok} {M : List Int}, (∀ t ∈ l, TokB t) → encTs l = .ok M → Byt M
  | [], M, _, h => by injection h with h; subst h; intro x hx; cases hx
  | t :: l, M, hb, h => by
    obtain ⟨x, y, h1, h2, rfl⟩ := then2_ok h
    exact (encT_byt (hb t (List.mem_cons_self ..)) h1).append (encTs_byt (fun u hu => hb u (List.mem_cons_of_mem _ hu)) h2)
/-! ### Facts at a world -/
def FW (W : World) (fs : List Fact) : Prop := ∀ f ∈ fs, f.p W ∧ ∀ k, f.fp k → k < W.heap.size
def Cap (v : Value) : Prop := ∀ a n c, v = .slice a n c → n ≤ c
theorem FW.app {W : World} {fs gs : List Fact} (h : FW W fs) (h2 : FW W gs) : FW W (fs ++ gs) := by
  intro f hf
  rcases List.mem_append.1 hf with h1 | h1
  · exact h f h1
  · exact h2 f h1
theorem FW.nil {W : World} : FW W [] := by intro f hf; cases hf
theorem FW.cons {W : World} {f : Fact} {fs : List Fact} (h : f.p W ∧ ∀ k, f.fp k → k < W.heap.size) (h2 : FW W fs) : FW W (f :: fs) := by
  intro g hg
  rcases List.mem_cons.1 hg with rfl | hg
  · exact h
  · exact h2 g hg
theorem FW.cl {W : World} {v1 v2 : Value} {x y : List Int} (h1 : SlC 1 W v1 x.length (ints x)) (h2 : SlC 1 W v2 y.length (ints y)) : FW W (clF v1 v2 (x, y)) := .cons ⟨h1, factC_lt h1⟩ (.cons ⟨h2, factC_lt h2⟩ .nil)
theorem FW.us {W : World} {x : ByteArray} {l : List Vr} {v : Value} (h : SlC 3 W v l.length (l.map vrV).flatten) : FW W [usF ((x, l), v)] := .cons ⟨h, factC_lt h⟩ .nil
/-! ### Cells -/
theorem cutS {α : Type} {cs l : List α} {off n : Nat} (h : (cs.drop off).take n = l) : cs.drop off = l ++ cs.drop (off + n) := by
  rw [← h, ← List.drop_drop, List.take_append_drop]
section
variable {P : Program} {H : Type} {enc : TypeId × Value → H} {W : World} {b0 : Nat} {sp : Nat → Bool} {hd : Bool} {t e : TypeId} {m : Nat} {cs : List Value} {y : DataW H × List MemPlace}
theorem trod_l32 (hu : P.underlying t = some (.array 32 e)) (he : P.underlying e = some (.int .u8)) (hz : P.cellsOf e = 1 ∧ P.cellsOf t = 32) (hf : DataW.trod enc P W b0 sp hd m t cs = some y) : ∃ f : Dg, cs = dg (l32 f) ∧ Byt (l32 f) := by
  obtain ⟨l, rfl, hl, hb⟩ := trod_dg hu he hz hf
  exact ⟨ofL l, by rw [l32_ofL hl], by rw [l32_ofL hl]; exact hb⟩
theorem trod_nums {k : IntKind} (hu : P.underlying t = some (.slice e)) (he : P.underlying e = some (.int k)) (hz : P.cellsOf e = 1) (hf : DataW.trod enc P W b0 sp hd m t cs = some y) :
    ∃ (v : Value) (l : List Int), cs = [v] ∧ SlC 1 W v l.length (l.map (Value.int k)) ∧ Cap v := by
  rcases open_ints hu he hz hf with ⟨hcs, _⟩ | ⟨x, len, cap, zs, hcs, _, hl, hm, hzl, _, hcell, hwz⟩
  · exact ⟨_, [], hcs, .inl ⟨rfl, rfl, none, 0, rfl⟩, fun a n c h => by cases h; exact Nat.le_refl _⟩
  · have hlz : len ≤ zs.length := by rw [hzl]; split <;> omega
    have hlt : (zs.take len).length = len := by rw [List.length_take]; omega
    refine ⟨_, zs.take len, hcs, ?_, fun a n c h => by cases h; exact hl⟩
    rw [hlt]
    by_cases h0 : len = 0
    · subst h0
      exact .inl ⟨rfl, by simp, some x, cap, rfl⟩
    · obtain ⟨b, off, spot⟩ := x
      have hspot : spot = none := by
        have := hcell 0 (by omega)
        simpa [Addr.add] using World.cell?_spot this
      subst hspot
      refine .inr ⟨b, off, cap, rfl, by rw [List.length_map, hlt, Nat.mul_one], fun j y hj => ?_⟩
      have hjl : j < len := by
        have := (List.getElem?_eq_some_iff.1 hj).1
        rw [List.length_map, hlt] at this
        exact this
      have := hcell j (by omega)
      rw [add_at] at this
      rw [this]
      rw [List.getElem?_map, List.getElem?_take, if_pos hjl] at hj
      rw [List.getD_eq_getElem?_getD, List.getElem?_eq_getElem (by omega)]
      rw [List.getElem?_eq_getElem (by omega)] at hj
      exact hj
theorem trod_rows {α : Type} {sz : Nat} {f : α → List Value} {good : α → Prop} (hsz : ∀ x, (f x).length = sz + 1) (hz : P.cellsOf e = sz + 1) (hu : P.underlying t = some (.slice e))
    (hel : ∀ (m : Nat) cs y, DataW.trod enc P W b0 sp hd m e cs = some y → ∃ x : α, cs = f x ∧ good x) (hf : DataW.trod enc P W b0 sp hd m t cs = some y) :
    ∃ (v : Value) (l : List α), cs = [v] ∧ SlC (sz + 1) W v l.length (l.map f).flatten ∧ Cap v ∧ ∀ x ∈ l, good x := by
  rcases DataW.trod_slice hu hf with ⟨hcs, _⟩ | ⟨x, len, cap, elems, rest, m, _, hcs, _, hb, hl, hm, hlen, he, _, _⟩
  · exact ⟨_, [], hcs, .inl ⟨rfl, rfl, none, 0, rfl⟩, fun a n c h => by cases h; exact Nat.le_refl _, by simp⟩
  · have key : ∀ i, i < len → ∃ y : α, good y ∧ W.cells? b0 (x.add (i * (sz + 1))) (sz + 1) = some (f y) := by
      intro i hi
      have h1 := he i hi
      rw [List.getElem?_eq_getElem (by omega), hz] at h1
      obtain ⟨cs, hcs, hy⟩ := Option.bind_eq_some_iff.1 h1
      obtain ⟨y, rfl, hg⟩ := hel _ cs _ hy
      exact ⟨y, hg, hcs⟩
    have build : ∀ k, k ≤ len → ∃ l : List α, l.length = k ∧ (∀ y ∈ l, good y) ∧ ∀ i (hi : i < k) y, l[i]? = some y → W.cells? b0 (x.add (i * (sz + 1))) (sz + 1) = some (f y) := by
      intro k
      induction k with
      | zero => exact fun _ => ⟨[], rfl, by simp, fun i hi => by omega⟩
      | succ k ih =>
        intro hk
        obtain ⟨l, h1, h2, h3⟩ := ih (by omega)
        obtain ⟨y, hg, hy⟩ := key k (by omega)
        refine ⟨l ++ [y], by simp [h1], fun z hz => ?_, fun i hi z hz => ?_⟩
        · rcases List.mem_append.1 hz with h4 | h4
          · exact h2 z h4
          · simp only [List.mem_singleton] at h4; subst h4; exact hg
        · by_cases hik : i = k
          · subst hik
            rw [List.getElem?_append_right (by omega), h1, Nat.sub_self] at hz
            simp only [List.getElem?_cons_zero, Option.some.injEq] at hz
            subst hz
            exact hy
          · rw [List.getElem?_append_left (by omega)] at hz
            exact h3 i (by omega) z hz
    obtain ⟨l, hll, hgood, hcell⟩ := build len (Nat.le_refl _)
    refine ⟨_, l, hcs, ?_, fun a n c h => by cases h; exact hl, hgood⟩
    rw [← List.flatMap_def, hll]
    have hfl : ∀ l : List α, (l.flatMap f).length = l.length * (sz + 1) := fun l => by
      induction l with
      | nil => simp
      | cons y l ih => rw [List.flatMap_cons, List.length_append, hsz, ih, List.length_cons, Nat.add_mul, Nat.one_mul, Nat.add_comm]
    by_cases h0 : len = 0
    · subst h0
      have : l = [] := List.eq_nil_of_length_eq_zero hll
      subst this
      exact .inl ⟨rfl, rfl, some x, cap, rfl⟩
    · obtain ⟨b, off, spot⟩ := x
      have hspot : spot = none := by
        have hc0 := hcell 0 (by omega) (l[0]'(by omega)) (by simp)
        have := (World.cells?_some hc0).2.2 0 (by omega)
        rw [List.getElem?_eq_getElem (by rw [hsz]; omega)] at this
        simp only [Nat.zero_mul] at this
        simpa [Addr.add] using World.cell?_spot this
      subst hspot
      refine .inr ⟨b, off, cap, rfl, by rw [hfl, hll], fun j u hj => ?_⟩
      have hjl : j < len * (sz + 1) := by
        have := (List.getElem?_eq_some_iff.1 hj).1
        rwa [hfl, hll] at this
      have hi : j / (sz + 1) < len := by rw [Nat.div_lt_iff_lt_mul (by omega)]; exact hjl
      have hsplit : ∀ (l : List α) (j : Nat) u, (l.flatMap f)[j]? = some u → ∃ y, l[j / (sz + 1)]? = some y ∧ (f y)[j % (sz + 1)]? = some u := fun l => by
        induction l with
        | nil => intro j u h; simp at h
        | cons y l ih =>
          intro j u h
          rw [List.flatMap_cons] at h
          by_cases hjs : j < sz + 1
          · rw [List.getElem?_append_left (by rw [hsz]; exact hjs)] at h
            rw [Nat.div_eq_of_lt hjs, Nat.mod_eq_of_lt hjs]
            exact ⟨y, rfl, h⟩
          · rw [List.getElem?_append_right (by rw [hsz]; omega), hsz] at h
            obtain ⟨z, h5, h6⟩ := ih _ u h
            refine ⟨z, ?_, ?_⟩
            · rw [Nat.div_eq_sub_div (by omega) (by omega)]
              exact h5
            · rw [Nat.mod_eq_sub_mod (by omega)]
              exact h6
      obtain ⟨y, hy, hu'⟩ := hsplit l j u hj
      have hc := (World.cells?_some (hcell _ hi y hy)).2.2 (j % (sz + 1)) (Nat.mod_lt _ (by omega))
      rw [hu'] at hc
      rw [add_add, add_at] at hc
      have hdm := Nat.div_add_mod j (sz + 1)
      rw [Nat.mul_comm] at hdm
      rw [hdm] at hc
      exact hc
end

theorem trod_hd {H : Type} {enc : TypeId × Value → H} {W : World} {b0 : Nat} {sp : Nat → Bool} {hd : Bool} {m : Nat} {cs : List Value} {y : DataW H × List MemPlace} (hf : DataW.trod enc Tryz.prog W b0 sp hd m 47 cs = some y) :
    ∃ (x : Hd), cs = hdV x ∧ TB hdC x := by
  obtain ⟨xs, m, rfl, hx, hl, hxl, hi⟩ := DataW.trod_struct Tryz.underlying47 hf
  have z0 : Tryz.prog.cellsOf 3 = 1 := by kernel_rfl
  have z1 : Tryz.prog.cellsOf 25 = 32 := by kernel_rfl
  have z2 : Tryz.prog.cellsOf 25 = 32 := by kernel_rfl
  have zz : Tryz.prog.cellsOf 47 = 65 := by kernel_rfl
  have hxl2 : xs.length = 3 := hxl
  have h0 := hi 0 _ rfl
  rw [List.getElem?_eq_getElem (by omega)] at h0
  have h1 := hi 1 _ rfl
  rw [List.getElem?_eq_getElem (by omega)] at h1
  have h2 := hi 2 _ rfl
  rw [List.getElem?_eq_getElem (by omega)] at h2
  obtain ⟨p0, e0, _, _⟩ := DataW.trod_int Tryz.underlying3 h0
  obtain ⟨p1, e1, t1⟩ := trod_l32 Tryz.underlying25 Tryz.underlying5 ⟨by kernel_rfl, by kernel_rfl⟩ h1
  obtain ⟨p2, e2, t2⟩ := trod_l32 Tryz.underlying25 Tryz.underlying5 ⟨by kernel_rfl, by kernel_rfl⟩ h2
  refine ⟨(p0, p1, p2), ?_, (TB.pr (TB.c _) (TB.pr (TB.d t1) (TB.d t2)))⟩
  rw [zz] at hl
  have c0 : cs.drop 0 = [.int .i64 p0] ++ cs.drop 1 := cutS (off := 0) (n := 1) (by have h : (cs.drop 0).take (Tryz.prog.cellsOf 3) = [.int .i64 p0] := e0; rw [z0] at h; exact h)
  have c1 : cs.drop 1 = dg (l32 p1) ++ cs.drop 33 := cutS (off := 1) (n := 32) (by have h : (cs.drop 1).take (Tryz.prog.cellsOf 25) = dg (l32 p1) := e1; rw [z1] at h; exact h)
  have c2 : cs.drop 33 = dg (l32 p2) ++ cs.drop 65 := cutS (off := 33) (n := 32) (by have h : (cs.drop 33).take (Tryz.prog.cellsOf 25) = dg (l32 p2) := e2; rw [z2] at h; exact h)
  have c3 : cs.drop 65 = [] := List.drop_eq_nil_of_le (by omega)
  have hh : cs = [.int .i64 p0] ++ (dg (l32 p1) ++ (dg (l32 p2) ++ [])) := (c0.trans (congrArg (_ ++ ·) (c1.trans (congrArg (_ ++ ·) (c2.trans (congrArg (_ ++ ·) c3))))))
  rw [hh]
  simp only [hdV, clV, List.append_assoc, List.append_nil, List.cons_append, List.nil_append, List.singleton_append]
theorem open_hd {H : Type} {enc : TypeId × Value → H} {W : World} {b0 : Nat} {sp : Nat → Bool} {hd : Bool} {base : Nat} {v : Value} {d : DataW H} {q : List MemPlace}
    (hok : Value.okWide Tryz.prog W .any base 47 v) (h : DataW.Trod enc Tryz.prog W b0 sp hd 47 v d q) :
    ∃ (x : Hd), v = .agg (hdV x).toArray ∧ TB hdC x := by
  unfold Value.okWide at hok
  rw [Tryz.underlying47] at hok
  obtain ⟨cs, rfl, hcs, _⟩ := hok
  obtain ⟨fuel, hf⟩ := h
  obtain ⟨x, hx, h1⟩ := trod_hd hf
  refine ⟨x, ?_, h1⟩
  congr 1
  apply Array.ext'
  exact hx
theorem trod_sg {H : Type} {enc : TypeId × Value → H} {W : World} {b0 : Nat} {sp : Nat → Bool} {hd : Bool} {m : Nat} {cs : List Value} {y : DataW H × List MemPlace} (hf : DataW.trod enc Tryz.prog W b0 sp hd m 49 cs = some y) :
    ∃ (x : Sg), cs = sgV x ∧ TB sgC x := by
  obtain ⟨xs, m, rfl, hx, hl, hxl, hi⟩ := DataW.trod_struct Tryz.underlying49 hf
  have z0 : Tryz.prog.cellsOf 47 = 65 := by kernel_rfl
  have z1 : Tryz.prog.cellsOf 25 = 32 := by kernel_rfl
  have zz : Tryz.prog.cellsOf 49 = 97 := by kernel_rfl
  have hxl2 : xs.length = 2 := hxl
  have h0 := hi 0 _ rfl
  rw [List.getElem?_eq_getElem (by omega)] at h0
  have h1 := hi 1 _ rfl
  rw [List.getElem?_eq_getElem (by omega)] at h1
  obtain ⟨p0, e0, t0⟩ := trod_hd h0
  obtain ⟨p1, e1, t1⟩ := trod_l32 Tryz.underlying25 Tryz.underlying5 ⟨by kernel_rfl, by kernel_rfl⟩ h1
  refine ⟨(p0, p1), ?_, (TB.pr t0 (TB.d t1))⟩
  rw [zz] at hl
  have c0 : cs.drop 0 = hdV p0 ++ cs.drop 65 := cutS (off := 0) (n := 65) (by have h : (cs.drop 0).take (Tryz.prog.cellsOf 47) = hdV p0 := e0; rw [z0] at h; exact h)
  have c1 : cs.drop 65 = dg (l32 p1) ++ cs.drop 97 := cutS (off := 65) (n := 32) (by have h : (cs.drop 65).take (Tryz.prog.cellsOf 25) = dg (l32 p1) := e1; rw [z1] at h; exact h)
  have c2 : cs.drop 97 = [] := List.drop_eq_nil_of_le (by omega)
  have hh : cs = hdV p0 ++ (dg (l32 p1) ++ []) := (c0.trans (congrArg (_ ++ ·) (c1.trans (congrArg (_ ++ ·) c2))))
  rw [hh]
  simp only [sgV, clV, List.append_assoc, List.append_nil, List.cons_append, List.nil_append, List.singleton_append]
theorem open_sg {H : Type} {enc : TypeId × Value → H} {W : World} {b0 : Nat} {sp : Nat → Bool} {hd : Bool} {base : Nat} {v : Value} {d : DataW H} {q : List MemPlace}
    (hok : Value.okWide Tryz.prog W .any base 49 v) (h : DataW.Trod enc Tryz.prog W b0 sp hd 49 v d q) :
    ∃ (x : Sg), v = .agg (sgV x).toArray ∧ TB sgC x := by
  unfold Value.okWide at hok
  rw [Tryz.underlying49] at hok
  obtain ⟨cs, rfl, hcs, _⟩ := hok
  obtain ⟨fuel, hf⟩ := h
  obtain ⟨x, hx, h1⟩ := trod_sg hf
  refine ⟨x, ?_, h1⟩
  congr 1
  apply Array.ext'
  exact hx
theorem trod_cmd {H : Type} {enc : TypeId × Value → H} {W : World} {b0 : Nat} {sp : Nat → Bool} {hd : Bool} {m : Nat} {cs : List Value} {y : DataW H × List MemPlace} (hf : DataW.trod enc Tryz.prog W b0 sp hd m 27 cs = some y) :
    ∃ (x : Cmd), cs = cmdV x ∧ TB cmdC x := by
  obtain ⟨xs, m, rfl, hx, hl, hxl, hi⟩ := DataW.trod_struct Tryz.underlying27 hf
  have z0 : Tryz.prog.cellsOf 23 = 1 := by kernel_rfl
  have z1 : Tryz.prog.cellsOf 3 = 1 := by kernel_rfl
  have z2 : Tryz.prog.cellsOf 3 = 1 := by kernel_rfl
  have z3 : Tryz.prog.cellsOf 9 = 1 := by kernel_rfl
  have z4 : Tryz.prog.cellsOf 9 = 1 := by kernel_rfl
  have z5 : Tryz.prog.cellsOf 3 = 1 := by kernel_rfl
  have z6 : Tryz.prog.cellsOf 25 = 32 := by kernel_rfl
  have zz : Tryz.prog.cellsOf 27 = 38 := by kernel_rfl
  have hxl2 : xs.length = 7 := hxl
  have h0 := hi 0 _ rfl
  rw [List.getElem?_eq_getElem (by omega)] at h0
  have h1 := hi 1 _ rfl
  rw [List.getElem?_eq_getElem (by omega)] at h1
  have h2 := hi 2 _ rfl
  rw [List.getElem?_eq_getElem (by omega)] at h2
  have h3 := hi 3 _ rfl
  rw [List.getElem?_eq_getElem (by omega)] at h3
  have h4 := hi 4 _ rfl
  rw [List.getElem?_eq_getElem (by omega)] at h4
  have h5 := hi 5 _ rfl
  rw [List.getElem?_eq_getElem (by omega)] at h5
  have h6 := hi 6 _ rfl
  rw [List.getElem?_eq_getElem (by omega)] at h6
  obtain ⟨p0, e0, _, _⟩ := DataW.trod_int Tryz.underlying23 h0
  obtain ⟨p1, e1, _, _⟩ := DataW.trod_int Tryz.underlying3 h1
  obtain ⟨p2, e2, _, _⟩ := DataW.trod_int Tryz.underlying3 h2
  obtain ⟨p3, e3, _⟩ := DataW.trod_string Tryz.underlying9 h3
  obtain ⟨p4, e4, _⟩ := DataW.trod_string Tryz.underlying9 h4
  obtain ⟨p5, e5, _, _⟩ := DataW.trod_int Tryz.underlying3 h5
  obtain ⟨p6, e6, t6⟩ := trod_l32 Tryz.underlying25 Tryz.underlying5 ⟨by kernel_rfl, by kernel_rfl⟩ h6
  refine ⟨(p0, p1, p2, p3, p4, p5, p6), ?_, (TB.pr (TB.c _) (TB.pr (TB.c _) (TB.pr (TB.c _) (TB.pr (TB.s _) (TB.pr (TB.s _) (TB.pr (TB.c _) (TB.d t6)))))))⟩
  rw [zz] at hl
  have c0 : cs.drop 0 = [.int .i64 p0] ++ cs.drop 1 := cutS (off := 0) (n := 1) (by have h : (cs.drop 0).take (Tryz.prog.cellsOf 23) = [.int .i64 p0] := e0; rw [z0] at h; exact h)
  have c1 : cs.drop 1 = [.int .i64 p1] ++ cs.drop 2 := cutS (off := 1) (n := 1) (by have h : (cs.drop 1).take (Tryz.prog.cellsOf 3) = [.int .i64 p1] := e1; rw [z1] at h; exact h)
  have c2 : cs.drop 2 = [.int .i64 p2] ++ cs.drop 3 := cutS (off := 2) (n := 1) (by have h : (cs.drop 2).take (Tryz.prog.cellsOf 3) = [.int .i64 p2] := e2; rw [z2] at h; exact h)
  have c3 : cs.drop 3 = [.string p3] ++ cs.drop 4 := cutS (off := 3) (n := 1) (by have h : (cs.drop 3).take (Tryz.prog.cellsOf 9) = [.string p3] := e3; rw [z3] at h; exact h)
  have c4 : cs.drop 4 = [.string p4] ++ cs.drop 5 := cutS (off := 4) (n := 1) (by have h : (cs.drop 4).take (Tryz.prog.cellsOf 9) = [.string p4] := e4; rw [z4] at h; exact h)
  have c5 : cs.drop 5 = [.int .i64 p5] ++ cs.drop 6 := cutS (off := 5) (n := 1) (by have h : (cs.drop 5).take (Tryz.prog.cellsOf 3) = [.int .i64 p5] := e5; rw [z5] at h; exact h)
  have c6 : cs.drop 6 = dg (l32 p6) ++ cs.drop 38 := cutS (off := 6) (n := 32) (by have h : (cs.drop 6).take (Tryz.prog.cellsOf 25) = dg (l32 p6) := e6; rw [z6] at h; exact h)
  have c7 : cs.drop 38 = [] := List.drop_eq_nil_of_le (by omega)
  have hh : cs = [.int .i64 p0] ++ ([.int .i64 p1] ++ ([.int .i64 p2] ++ ([.string p3] ++ ([.string p4] ++ ([.int .i64 p5] ++ (dg (l32 p6) ++ [])))))) := (c0.trans (congrArg (_ ++ ·) (c1.trans (congrArg (_ ++ ·) (c2.trans (congrArg (_ ++ ·) (c3.trans (congrArg (_ ++ ·) (c4.trans (congrArg (_ ++ ·) (c5.trans (congrArg (_ ++ ·) (c6.trans (congrArg (_ ++ ·) c7))))))))))))))
  rw [hh]
  simp only [cmdV, clV, List.append_assoc, List.append_nil, List.cons_append, List.nil_append, List.singleton_append]
theorem open_cmd {H : Type} {enc : TypeId × Value → H} {W : World} {b0 : Nat} {sp : Nat → Bool} {hd : Bool} {base : Nat} {v : Value} {d : DataW H} {q : List MemPlace}
    (hok : Value.okWide Tryz.prog W .any base 27 v) (h : DataW.Trod enc Tryz.prog W b0 sp hd 27 v d q) :
    ∃ (x : Cmd), v = .agg (cmdV x).toArray ∧ TB cmdC x := by
  unfold Value.okWide at hok
  rw [Tryz.underlying27] at hok
  obtain ⟨cs, rfl, hcs, _⟩ := hok
  obtain ⟨fuel, hf⟩ := h
  obtain ⟨x, hx, h1⟩ := trod_cmd hf
  refine ⟨x, ?_, h1⟩
  congr 1
  apply Array.ext'
  exact hx
theorem trod_cl {H : Type} {enc : TypeId × Value → H} {W : World} {b0 : Nat} {sp : Nat → Bool} {hd : Bool} {m : Nat} {cs : List Value} {y : DataW H × List MemPlace} (hf : DataW.trod enc Tryz.prog W b0 sp hd m 36 cs = some y) :
    ∃ (x : Cl) (v1 v2 : Value), cs = clV v1 v2 ∧ TB clC x ∧ FW W (clF v1 v2 x) ∧ Cap v1 ∧ Cap v2 := by
  obtain ⟨xs, m, rfl, hx, hl, hxl, hi⟩ := DataW.trod_struct Tryz.underlying36 hf
  have z0 : Tryz.prog.cellsOf 34 = 1 := by kernel_rfl
  have z1 : Tryz.prog.cellsOf 34 = 1 := by kernel_rfl
  have zz : Tryz.prog.cellsOf 36 = 2 := by kernel_rfl
  have hxl2 : xs.length = 2 := hxl
  have h0 := hi 0 _ rfl
  rw [List.getElem?_eq_getElem (by omega)] at h0
  have h1 := hi 1 _ rfl
  rw [List.getElem?_eq_getElem (by omega)] at h1
  obtain ⟨v0, p0, e0, s0, q0⟩ := trod_nums Tryz.underlying34 Tryz.underlying3 (by kernel_rfl) h0
  obtain ⟨v1, p1, e1, s1, q1⟩ := trod_nums Tryz.underlying34 Tryz.underlying3 (by kernel_rfl) h1
  refine ⟨(p0, p1), v0, v1, ?_, (TB.pr (TB.ls fun y _ => TB.c y) (TB.ls fun y _ => TB.c y)), (FW.cl s0 s1), q0, q1⟩
  rw [zz] at hl
  have c0 : cs.drop 0 = [v0] ++ cs.drop 1 := cutS (off := 0) (n := 1) (by have h : (cs.drop 0).take (Tryz.prog.cellsOf 34) = [v0] := e0; rw [z0] at h; exact h)
  have c1 : cs.drop 1 = [v1] ++ cs.drop 2 := cutS (off := 1) (n := 1) (by have h : (cs.drop 1).take (Tryz.prog.cellsOf 34) = [v1] := e1; rw [z1] at h; exact h)
  have c2 : cs.drop 2 = [] := List.drop_eq_nil_of_le (by omega)
  have hh : cs = [v0] ++ ([v1] ++ []) := (c0.trans (congrArg (_ ++ ·) (c1.trans (congrArg (_ ++ ·) c2))))
  rw [hh]
  rfl
theorem open_cl {H : Type} {enc : TypeId × Value → H} {W : World} {b0 : Nat} {sp : Nat → Bool} {hd : Bool} {base : Nat} {v : Value} {d : DataW H} {q : List MemPlace}
    (hok : Value.okWide Tryz.prog W .any base 36 v) (h : DataW.Trod enc Tryz.prog W b0 sp hd 36 v d q) :
    ∃ (x : Cl) (v1 v2 : Value), v = .agg (clV v1 v2).toArray ∧ TB clC x ∧ FW W (clF v1 v2 x) ∧ Cap v1 ∧ Cap v2 := by
  unfold Value.okWide at hok
  rw [Tryz.underlying36] at hok
  obtain ⟨cs, rfl, hcs, _⟩ := hok
  obtain ⟨fuel, hf⟩ := h
  obtain ⟨x, v1, v2, hx, h1⟩ := trod_cl hf
  refine ⟨x, v1, v2, ?_, h1⟩
  congr 1
  apply Array.ext'
  exact hx
theorem trod_en {H : Type} {enc : TypeId × Value → H} {W : World} {b0 : Nat} {sp : Nat → Bool} {hd : Bool} {m : Nat} {cs : List Value} {y : DataW H × List MemPlace} (hf : DataW.trod enc Tryz.prog W b0 sp hd m 38 cs = some y) :
    ∃ (x : En) (v1 v2 : Value), cs = enV x v1 v2 ∧ TB enC x ∧ FW W (clF v1 v2 x.2.2.2.2) ∧ Cap v1 ∧ Cap v2 := by
  obtain ⟨xs, m, rfl, hx, hl, hxl, hi⟩ := DataW.trod_struct Tryz.underlying38 hf
  have z0 : Tryz.prog.cellsOf 3 = 1 := by kernel_rfl
  have z1 : Tryz.prog.cellsOf 3 = 1 := by kernel_rfl
  have z2 : Tryz.prog.cellsOf 33 = 1 := by kernel_rfl
  have z3 : Tryz.prog.cellsOf 27 = 38 := by kernel_rfl
  have z4 : Tryz.prog.cellsOf 36 = 2 := by kernel_rfl
  have zz : Tryz.prog.cellsOf 38 = 43 := by kernel_rfl
  have hxl2 : xs.length = 5 := hxl
  have h0 := hi 0 _ rfl
  rw [List.getElem?_eq_getElem (by omega)] at h0
  have h1 := hi 1 _ rfl
  rw [List.getElem?_eq_getElem (by omega)] at h1
  have h2 := hi 2 _ rfl
  rw [List.getElem?_eq_getElem (by omega)] at h2
  have h3 := hi 3 _ rfl
  rw [List.getElem?_eq_getElem (by omega)] at h3
  have h4 := hi 4 _ rfl
  rw [List.getElem?_eq_getElem (by omega)] at h4
  obtain ⟨p0, e0, _, _⟩ := DataW.trod_int Tryz.underlying3 h0
  obtain ⟨p1, e1, _, _⟩ := DataW.trod_int Tryz.underlying3 h1
  obtain ⟨p2, e2, _, _⟩ := DataW.trod_int Tryz.underlying33 h2
  obtain ⟨p3, e3, t3⟩ := trod_cmd h3
  obtain ⟨p4, v4a, v4b, e4, t4, s4, qv4a, qv4b⟩ := trod_cl h4
  refine ⟨(p0, p1, p2, p3, p4), v4a, v4b, ?_, (TB.pr (TB.c _) (TB.pr (TB.c _) (TB.pr (TB.c _) (TB.pr t3 t4)))), s4, qv4a, qv4b⟩
  rw [zz] at hl
  have c0 : cs.drop 0 = [.int .i64 p0] ++ cs.drop 1 := cutS (off := 0) (n := 1) (by have h : (cs.drop 0).take (Tryz.prog.cellsOf 3) = [.int .i64 p0] := e0; rw [z0] at h; exact h)
  have c1 : cs.drop 1 = [.int .i64 p1] ++ cs.drop 2 := cutS (off := 1) (n := 1) (by have h : (cs.drop 1).take (Tryz.prog.cellsOf 3) = [.int .i64 p1] := e1; rw [z1] at h; exact h)
  have c2 : cs.drop 2 = [.int .i64 p2] ++ cs.drop 3 := cutS (off := 2) (n := 1) (by have h : (cs.drop 2).take (Tryz.prog.cellsOf 33) = [.int .i64 p2] := e2; rw [z2] at h; exact h)
  have c3 : cs.drop 3 = cmdV p3 ++ cs.drop 41 := cutS (off := 3) (n := 38) (by have h : (cs.drop 3).take (Tryz.prog.cellsOf 27) = cmdV p3 := e3; rw [z3] at h; exact h)
  have c4 : cs.drop 41 = clV v4a v4b ++ cs.drop 43 := cutS (off := 41) (n := 2) (by have h : (cs.drop 41).take (Tryz.prog.cellsOf 36) = clV v4a v4b := e4; rw [z4] at h; exact h)
  have c5 : cs.drop 43 = [] := List.drop_eq_nil_of_le (by omega)
  have hh : cs = [.int .i64 p0] ++ ([.int .i64 p1] ++ ([.int .i64 p2] ++ (cmdV p3 ++ (clV v4a v4b ++ [])))) := (c0.trans (congrArg (_ ++ ·) (c1.trans (congrArg (_ ++ ·) (c2.trans (congrArg (_ ++ ·) (c3.trans (congrArg (_ ++ ·) (c4.trans (congrArg (_ ++ ·) c5))))))))))
  rw [hh]
  simp only [enV, clV, List.append_assoc, List.append_nil, List.cons_append, List.nil_append, List.singleton_append]
theorem open_en {H : Type} {enc : TypeId × Value → H} {W : World} {b0 : Nat} {sp : Nat → Bool} {hd : Bool} {base : Nat} {v : Value} {d : DataW H} {q : List MemPlace}
    (hok : Value.okWide Tryz.prog W .any base 38 v) (h : DataW.Trod enc Tryz.prog W b0 sp hd 38 v d q) :
    ∃ (x : En) (v1 v2 : Value), v = .agg (enV x v1 v2).toArray ∧ TB enC x ∧ FW W (clF v1 v2 x.2.2.2.2) ∧ Cap v1 ∧ Cap v2 := by
  unfold Value.okWide at hok
  rw [Tryz.underlying38] at hok
  obtain ⟨cs, rfl, hcs, _⟩ := hok
  obtain ⟨fuel, hf⟩ := h
  obtain ⟨x, v1, v2, hx, h1⟩ := trod_en hf
  refine ⟨x, v1, v2, ?_, h1⟩
  congr 1
  apply Array.ext'
  exact hx
theorem trod_sn {H : Type} {enc : TypeId × Value → H} {W : World} {b0 : Nat} {sp : Nat → Bool} {hd : Bool} {m : Nat} {cs : List Value} {y : DataW H × List MemPlace} (hf : DataW.trod enc Tryz.prog W b0 sp hd m 45 cs = some y) :
    ∃ (x : Sn) (v1 v2 : Value), cs = snV x v1 v2 ∧ TB snC x ∧ FW W (clF v1 v2 x.2.2.1) ∧ Cap v1 ∧ Cap v2 := by
  obtain ⟨xs, m, rfl, hx, hl, hxl, hi⟩ := DataW.trod_struct Tryz.underlying45 hf
  have z0 : Tryz.prog.cellsOf 3 = 1 := by kernel_rfl
  have z1 : Tryz.prog.cellsOf 3 = 1 := by kernel_rfl
  have z2 : Tryz.prog.cellsOf 36 = 2 := by kernel_rfl
  have z3 : Tryz.prog.cellsOf 9 = 1 := by kernel_rfl
  have zz : Tryz.prog.cellsOf 45 = 5 := by kernel_rfl
  have hxl2 : xs.length = 4 := hxl
  have h0 := hi 0 _ rfl
  rw [List.getElem?_eq_getElem (by omega)] at h0
  have h1 := hi 1 _ rfl
  rw [List.getElem?_eq_getElem (by omega)] at h1
  have h2 := hi 2 _ rfl
  rw [List.getElem?_eq_getElem (by omega)] at h2
  have h3 := hi 3 _ rfl
  rw [List.getElem?_eq_getElem (by omega)] at h3
  obtain ⟨p0, e0, _, _⟩ := DataW.trod_int Tryz.underlying3 h0
  obtain ⟨p1, e1, _, _⟩ := DataW.trod_int Tryz.underlying3 h1
  obtain ⟨p2, v2a, v2b, e2, t2, s2, qv2a, qv2b⟩ := trod_cl h2
  obtain ⟨p3, e3, _⟩ := DataW.trod_string Tryz.underlying9 h3
  refine ⟨(p0, p1, p2, p3), v2a, v2b, ?_, (TB.pr (TB.c _) (TB.pr (TB.c _) (TB.pr t2 (TB.s _)))), s2, qv2a, qv2b⟩
  rw [zz] at hl
  have c0 : cs.drop 0 = [.int .i64 p0] ++ cs.drop 1 := cutS (off := 0) (n := 1) (by have h : (cs.drop 0).take (Tryz.prog.cellsOf 3) = [.int .i64 p0] := e0; rw [z0] at h; exact h)
  have c1 : cs.drop 1 = [.int .i64 p1] ++ cs.drop 2 := cutS (off := 1) (n := 1) (by have h : (cs.drop 1).take (Tryz.prog.cellsOf 3) = [.int .i64 p1] := e1; rw [z1] at h; exact h)
  have c2 : cs.drop 2 = clV v2a v2b ++ cs.drop 4 := cutS (off := 2) (n := 2) (by have h : (cs.drop 2).take (Tryz.prog.cellsOf 36) = clV v2a v2b := e2; rw [z2] at h; exact h)
  have c3 : cs.drop 4 = [.string p3] ++ cs.drop 5 := cutS (off := 4) (n := 1) (by have h : (cs.drop 4).take (Tryz.prog.cellsOf 9) = [.string p3] := e3; rw [z3] at h; exact h)
  have c4 : cs.drop 5 = [] := List.drop_eq_nil_of_le (by omega)
  have hh : cs = [.int .i64 p0] ++ ([.int .i64 p1] ++ (clV v2a v2b ++ ([.string p3] ++ []))) := (c0.trans (congrArg (_ ++ ·) (c1.trans (congrArg (_ ++ ·) (c2.trans (congrArg (_ ++ ·) (c3.trans (congrArg (_ ++ ·) c4))))))))
  rw [hh]
  rfl
theorem open_sn {H : Type} {enc : TypeId × Value → H} {W : World} {b0 : Nat} {sp : Nat → Bool} {hd : Bool} {base : Nat} {v : Value} {d : DataW H} {q : List MemPlace}
    (hok : Value.okWide Tryz.prog W .any base 45 v) (h : DataW.Trod enc Tryz.prog W b0 sp hd 45 v d q) :
    ∃ (x : Sn) (v1 v2 : Value), v = .agg (snV x v1 v2).toArray ∧ TB snC x ∧ FW W (clF v1 v2 x.2.2.1) ∧ Cap v1 ∧ Cap v2 := by
  unfold Value.okWide at hok
  rw [Tryz.underlying45] at hok
  obtain ⟨cs, rfl, hcs, _⟩ := hok
  obtain ⟨fuel, hf⟩ := h
  obtain ⟨x, v1, v2, hx, h1⟩ := trod_sn hf
  refine ⟨x, v1, v2, ?_, h1⟩
  congr 1
  apply Array.ext'
  exact hx
theorem trod_rec {H : Type} {enc : TypeId × Value → H} {W : World} {b0 : Nat} {sp : Nat → Bool} {hd : Bool} {m : Nat} {cs : List Value} {y : DataW H × List MemPlace} (hf : DataW.trod enc Tryz.prog W b0 sp hd m 51 cs = some y) :
    ∃ (x : Rec) (v1 v2 v3 v4 : Value), cs = recV x v1 v2 v3 v4 ∧ TB recC x ∧ FW W ((clF v1 v2 x.2.2.2.1.2.2.2.2 ++ clF v3 v4 x.2.2.2.2.2.1.2.2.1)) ∧ Cap v1 ∧ Cap v2 ∧ Cap v3 ∧ Cap v4 := by
  obtain ⟨xs, m, rfl, hx, hl, hxl, hi⟩ := DataW.trod_struct Tryz.underlying51 hf
  have z0 : Tryz.prog.cellsOf 43 = 1 := by kernel_rfl
  have z1 : Tryz.prog.cellsOf 3 = 1 := by kernel_rfl
  have z2 : Tryz.prog.cellsOf 3 = 1 := by kernel_rfl
  have z3 : Tryz.prog.cellsOf 38 = 43 := by kernel_rfl
  have z4 : Tryz.prog.cellsOf 3 = 1 := by kernel_rfl
  have z5 : Tryz.prog.cellsOf 45 = 5 := by kernel_rfl
  have z6 : Tryz.prog.cellsOf 49 = 97 := by kernel_rfl
  have zz : Tryz.prog.cellsOf 51 = 149 := by kernel_rfl
  have hxl2 : xs.length = 7 := hxl
  have h0 := hi 0 _ rfl
  rw [List.getElem?_eq_getElem (by omega)] at h0
  have h1 := hi 1 _ rfl
  rw [List.getElem?_eq_getElem (by omega)] at h1
  have h2 := hi 2 _ rfl
  rw [List.getElem?_eq_getElem (by omega)] at h2
  have h3 := hi 3 _ rfl
  rw [List.getElem?_eq_getElem (by omega)] at h3
  have h4 := hi 4 _ rfl
  rw [List.getElem?_eq_getElem (by omega)] at h4
  have h5 := hi 5 _ rfl
  rw [List.getElem?_eq_getElem (by omega)] at h5
  have h6 := hi 6 _ rfl
  rw [List.getElem?_eq_getElem (by omega)] at h6
  obtain ⟨p0, e0, _, _⟩ := DataW.trod_int Tryz.underlying43 h0
  obtain ⟨p1, e1, _, _⟩ := DataW.trod_int Tryz.underlying3 h1
  obtain ⟨p2, e2, _, _⟩ := DataW.trod_int Tryz.underlying3 h2
  obtain ⟨p3, v3a, v3b, e3, t3, s3, qv3a, qv3b⟩ := trod_en h3
  obtain ⟨p4, e4, _, _⟩ := DataW.trod_int Tryz.underlying3 h4
  obtain ⟨p5, v5a, v5b, e5, t5, s5, qv5a, qv5b⟩ := trod_sn h5
  obtain ⟨p6, e6, t6⟩ := trod_sg h6
  refine ⟨(p0, p1, p2, p3, p4, p5, p6), v3a, v3b, v5a, v5b, ?_, (TB.pr (TB.c _) (TB.pr (TB.c _) (TB.pr (TB.c _) (TB.pr t3 (TB.pr (TB.c _) (TB.pr t5 t6)))))), (FW.app s3 s5), qv3a, qv3b, qv5a, qv5b⟩
  rw [zz] at hl
  have c0 : cs.drop 0 = [.int .i64 p0] ++ cs.drop 1 := cutS (off := 0) (n := 1) (by have h : (cs.drop 0).take (Tryz.prog.cellsOf 43) = [.int .i64 p0] := e0; rw [z0] at h; exact h)
  have c1 : cs.drop 1 = [.int .i64 p1] ++ cs.drop 2 := cutS (off := 1) (n := 1) (by have h : (cs.drop 1).take (Tryz.prog.cellsOf 3) = [.int .i64 p1] := e1; rw [z1] at h; exact h)
  have c2 : cs.drop 2 = [.int .i64 p2] ++ cs.drop 3 := cutS (off := 2) (n := 1) (by have h : (cs.drop 2).take (Tryz.prog.cellsOf 3) = [.int .i64 p2] := e2; rw [z2] at h; exact h)
  have c3 : cs.drop 3 = enV p3 v3a v3b ++ cs.drop 46 := cutS (off := 3) (n := 43) (by have h : (cs.drop 3).take (Tryz.prog.cellsOf 38) = enV p3 v3a v3b := e3; rw [z3] at h; exact h)
  have c4 : cs.drop 46 = [.int .i64 p4] ++ cs.drop 47 := cutS (off := 46) (n := 1) (by have h : (cs.drop 46).take (Tryz.prog.cellsOf 3) = [.int .i64 p4] := e4; rw [z4] at h; exact h)
  have c5 : cs.drop 47 = snV p5 v5a v5b ++ cs.drop 52 := cutS (off := 47) (n := 5) (by have h : (cs.drop 47).take (Tryz.prog.cellsOf 45) = snV p5 v5a v5b := e5; rw [z5] at h; exact h)
  have c6 : cs.drop 52 = sgV p6 ++ cs.drop 149 := cutS (off := 52) (n := 97) (by have h : (cs.drop 52).take (Tryz.prog.cellsOf 49) = sgV p6 := e6; rw [z6] at h; exact h)
  have c7 : cs.drop 149 = [] := List.drop_eq_nil_of_le (by omega)
  have hh : cs = [.int .i64 p0] ++ ([.int .i64 p1] ++ ([.int .i64 p2] ++ (enV p3 v3a v3b ++ ([.int .i64 p4] ++ (snV p5 v5a v5b ++ (sgV p6 ++ [])))))) := (c0.trans (congrArg (_ ++ ·) (c1.trans (congrArg (_ ++ ·) (c2.trans (congrArg (_ ++ ·) (c3.trans (congrArg (_ ++ ·) (c4.trans (congrArg (_ ++ ·) (c5.trans (congrArg (_ ++ ·) (c6.trans (congrArg (_ ++ ·) c7))))))))))))))
  rw [hh]
  simp only [recV, clV, snV, List.append_assoc, List.append_nil, List.cons_append, List.nil_append, List.singleton_append]
theorem open_rec {H : Type} {enc : TypeId × Value → H} {W : World} {b0 : Nat} {sp : Nat → Bool} {hd : Bool} {base : Nat} {v : Value} {d : DataW H} {q : List MemPlace}
    (hok : Value.okWide Tryz.prog W .any base 51 v) (h : DataW.Trod enc Tryz.prog W b0 sp hd 51 v d q) :
    ∃ (x : Rec) (v1 v2 v3 v4 : Value), v = .agg (recV x v1 v2 v3 v4).toArray ∧ TB recC x ∧ FW W ((clF v1 v2 x.2.2.2.1.2.2.2.2 ++ clF v3 v4 x.2.2.2.2.2.1.2.2.1)) ∧ Cap v1 ∧ Cap v2 ∧ Cap v3 ∧ Cap v4 := by
  unfold Value.okWide at hok
  rw [Tryz.underlying51] at hok
  obtain ⟨cs, rfl, hcs, _⟩ := hok
  obtain ⟨fuel, hf⟩ := h
  obtain ⟨x, v1, v2, v3, v4, hx, h1⟩ := trod_rec hf
  refine ⟨x, v1, v2, v3, v4, ?_, h1⟩
  congr 1
  apply Array.ext'
  exact hx
theorem trod_vr {H : Type} {enc : TypeId × Value → H} {W : World} {b0 : Nat} {sp : Nat → Bool} {hd : Bool} {m : Nat} {cs : List Value} {y : DataW H × List MemPlace} (hf : DataW.trod enc Tryz.prog W b0 sp hd m 109 cs = some y) :
    ∃ (x : Vr), cs = vrV x ∧ TB vrC x := by
  obtain ⟨xs, m, rfl, hx, hl, hxl, hi⟩ := DataW.trod_struct Tryz.underlying109 hf
  have z0 : Tryz.prog.cellsOf 3 = 1 := by kernel_rfl
  have z1 : Tryz.prog.cellsOf 107 = 1 := by kernel_rfl
  have z2 : Tryz.prog.cellsOf 9 = 1 := by kernel_rfl
  have zz : Tryz.prog.cellsOf 109 = 3 := by kernel_rfl
  have hxl2 : xs.length = 3 := hxl
  have h0 := hi 0 _ rfl
  rw [List.getElem?_eq_getElem (by omega)] at h0
  have h1 := hi 1 _ rfl
  rw [List.getElem?_eq_getElem (by omega)] at h1
  have h2 := hi 2 _ rfl
  rw [List.getElem?_eq_getElem (by omega)] at h2
  obtain ⟨p0, e0, _, _⟩ := DataW.trod_int Tryz.underlying3 h0
  obtain ⟨p1, e1, _, _⟩ := DataW.trod_int Tryz.underlying107 h1
  obtain ⟨p2, e2, _⟩ := DataW.trod_string Tryz.underlying9 h2
  refine ⟨(p0, p1, p2), ?_, (TB.pr (TB.c _) (TB.pr (TB.c _) (TB.s _)))⟩
  rw [zz] at hl
  have c0 : cs.drop 0 = [.int .i64 p0] ++ cs.drop 1 := cutS (off := 0) (n := 1) (by have h : (cs.drop 0).take (Tryz.prog.cellsOf 3) = [.int .i64 p0] := e0; rw [z0] at h; exact h)
  have c1 : cs.drop 1 = [.int .i64 p1] ++ cs.drop 2 := cutS (off := 1) (n := 1) (by have h : (cs.drop 1).take (Tryz.prog.cellsOf 107) = [.int .i64 p1] := e1; rw [z1] at h; exact h)
  have c2 : cs.drop 2 = [.string p2] ++ cs.drop 3 := cutS (off := 2) (n := 1) (by have h : (cs.drop 2).take (Tryz.prog.cellsOf 9) = [.string p2] := e2; rw [z2] at h; exact h)
  have c3 : cs.drop 3 = [] := List.drop_eq_nil_of_le (by omega)
  have hh : cs = [.int .i64 p0] ++ ([.int .i64 p1] ++ ([.string p2] ++ [])) := (c0.trans (congrArg (_ ++ ·) (c1.trans (congrArg (_ ++ ·) (c2.trans (congrArg (_ ++ ·) c3))))))
  rw [hh]
  rfl
theorem open_vr {H : Type} {enc : TypeId × Value → H} {W : World} {b0 : Nat} {sp : Nat → Bool} {hd : Bool} {base : Nat} {v : Value} {d : DataW H} {q : List MemPlace}
    (hok : Value.okWide Tryz.prog W .any base 109 v) (h : DataW.Trod enc Tryz.prog W b0 sp hd 109 v d q) :
    ∃ (x : Vr), v = .agg (vrV x).toArray ∧ TB vrC x := by
  unfold Value.okWide at hok
  rw [Tryz.underlying109] at hok
  obtain ⟨cs, rfl, hcs, _⟩ := hok
  obtain ⟨fuel, hf⟩ := h
  obtain ⟨x, hx, h1⟩ := trod_vr hf
  refine ⟨x, ?_, h1⟩
  congr 1
  apply Array.ext'
  exact hx
theorem trod_us {H : Type} {enc : TypeId × Value → H} {W : World} {b0 : Nat} {sp : Nat → Bool} {hd : Bool} {m : Nat} {cs : List Value} {y : DataW H × List MemPlace} (hf : DataW.trod enc Tryz.prog W b0 sp hd m 103 cs = some y) :
    ∃ (x : Us) (v1 : Value), cs = usV x v1 ∧ TB usC x ∧ FW W ([usF (x, v1)]) ∧ Cap v1 := by
  obtain ⟨xs, m, rfl, hx, hl, hxl, hi⟩ := DataW.trod_struct Tryz.underlying103 hf
  have z0 : Tryz.prog.cellsOf 9 = 1 := by kernel_rfl
  have z1 : Tryz.prog.cellsOf 101 = 1 := by kernel_rfl
  have zz : Tryz.prog.cellsOf 103 = 2 := by kernel_rfl
  have hxl2 : xs.length = 2 := hxl
  have h0 := hi 0 _ rfl
  rw [List.getElem?_eq_getElem (by omega)] at h0
  have h1 := hi 1 _ rfl
  rw [List.getElem?_eq_getElem (by omega)] at h1
  obtain ⟨p0, e0, _⟩ := DataW.trod_string Tryz.underlying9 h0
  obtain ⟨v1, p1, e1, s1, q1, g1⟩ := trod_rows (f := vrV) (sz := 2) (good := TB vrC) (fun _ => rfl) (by kernel_rfl) Tryz.underlying101 (fun m cs y hy => trod_vr hy) h1
  refine ⟨(p0, p1), v1, ?_, (TB.pr (TB.s _) (TB.ls g1)), (FW.us s1), q1⟩
  rw [zz] at hl
  have c0 : cs.drop 0 = [.string p0] ++ cs.drop 1 := cutS (off := 0) (n := 1) (by have h : (cs.drop 0).take (Tryz.prog.cellsOf 9) = [.string p0] := e0; rw [z0] at h; exact h)
  have c1 : cs.drop 1 = [v1] ++ cs.drop 2 := cutS (off := 1) (n := 1) (by have h : (cs.drop 1).take (Tryz.prog.cellsOf 101) = [v1] := e1; rw [z1] at h; exact h)
  have c2 : cs.drop 2 = [] := List.drop_eq_nil_of_le (by omega)
  have hh : cs = [.string p0] ++ ([v1] ++ []) := (c0.trans (congrArg (_ ++ ·) (c1.trans (congrArg (_ ++ ·) c2))))
  rw [hh]
  rfl
theorem open_us {H : Type} {enc : TypeId × Value → H} {W : World} {b0 : Nat} {sp : Nat → Bool} {hd : Bool} {base : Nat} {v : Value} {d : DataW H} {q : List MemPlace}
    (hok : Value.okWide Tryz.prog W .any base 103 v) (h : DataW.Trod enc Tryz.prog W b0 sp hd 103 v d q) :
    ∃ (x : Us) (v1 : Value), v = .agg (usV x v1).toArray ∧ TB usC x ∧ FW W ([usF (x, v1)]) ∧ Cap v1 := by
  unfold Value.okWide at hok
  rw [Tryz.underlying103] at hok
  obtain ⟨cs, rfl, hcs, _⟩ := hok
  obtain ⟨fuel, hf⟩ := h
  obtain ⟨x, v1, hx, h1⟩ := trod_us hf
  refine ⟨x, v1, ?_, h1⟩
  congr 1
  apply Array.ext'
  exact hx
theorem trod_se {H : Type} {enc : TypeId × Value → H} {W : World} {b0 : Nat} {sp : Nat → Bool} {hd : Bool} {m : Nat} {cs : List Value} {y : DataW H × List MemPlace} (hf : DataW.trod enc Tryz.prog W b0 sp hd m 106 cs = some y) :
    ∃ (x : Se), cs = seV x ∧ TB seC x := by
  obtain ⟨xs, m, rfl, hx, hl, hxl, hi⟩ := DataW.trod_struct Tryz.underlying106 hf
  have z0 : Tryz.prog.cellsOf 3 = 1 := by kernel_rfl
  have z1 : Tryz.prog.cellsOf 3 = 1 := by kernel_rfl
  have z2 : Tryz.prog.cellsOf 28 = 1 := by kernel_rfl
  have z3 : Tryz.prog.cellsOf 3 = 1 := by kernel_rfl
  have zz : Tryz.prog.cellsOf 106 = 4 := by kernel_rfl
  have hxl2 : xs.length = 4 := hxl
  have h0 := hi 0 _ rfl
  rw [List.getElem?_eq_getElem (by omega)] at h0
  have h1 := hi 1 _ rfl
  rw [List.getElem?_eq_getElem (by omega)] at h1
  have h2 := hi 2 _ rfl
  rw [List.getElem?_eq_getElem (by omega)] at h2
  have h3 := hi 3 _ rfl
  rw [List.getElem?_eq_getElem (by omega)] at h3
  obtain ⟨p0, e0, _, _⟩ := DataW.trod_int Tryz.underlying3 h0
  obtain ⟨p1, e1, _, _⟩ := DataW.trod_int Tryz.underlying3 h1
  obtain ⟨p2, e2, _, _⟩ := DataW.trod_int Tryz.underlying28 h2
  obtain ⟨p3, e3, _, _⟩ := DataW.trod_int Tryz.underlying3 h3
  refine ⟨(p0, p1, p2, p3), ?_, (TB.pr (TB.c _) (TB.pr (TB.c _) (TB.pr (TB.c _) (TB.c _))))⟩
  rw [zz] at hl
  have c0 : cs.drop 0 = [.int .i64 p0] ++ cs.drop 1 := cutS (off := 0) (n := 1) (by have h : (cs.drop 0).take (Tryz.prog.cellsOf 3) = [.int .i64 p0] := e0; rw [z0] at h; exact h)
  have c1 : cs.drop 1 = [.int .i64 p1] ++ cs.drop 2 := cutS (off := 1) (n := 1) (by have h : (cs.drop 1).take (Tryz.prog.cellsOf 3) = [.int .i64 p1] := e1; rw [z1] at h; exact h)
  have c2 : cs.drop 2 = [.int .i64 p2] ++ cs.drop 3 := cutS (off := 2) (n := 1) (by have h : (cs.drop 2).take (Tryz.prog.cellsOf 28) = [.int .i64 p2] := e2; rw [z2] at h; exact h)
  have c3 : cs.drop 3 = [.int .i64 p3] ++ cs.drop 4 := cutS (off := 3) (n := 1) (by have h : (cs.drop 3).take (Tryz.prog.cellsOf 3) = [.int .i64 p3] := e3; rw [z3] at h; exact h)
  have c4 : cs.drop 4 = [] := List.drop_eq_nil_of_le (by omega)
  have hh : cs = [.int .i64 p0] ++ ([.int .i64 p1] ++ ([.int .i64 p2] ++ ([.int .i64 p3] ++ []))) := (c0.trans (congrArg (_ ++ ·) (c1.trans (congrArg (_ ++ ·) (c2.trans (congrArg (_ ++ ·) (c3.trans (congrArg (_ ++ ·) c4))))))))
  rw [hh]
  rfl
theorem open_se {H : Type} {enc : TypeId × Value → H} {W : World} {b0 : Nat} {sp : Nat → Bool} {hd : Bool} {base : Nat} {v : Value} {d : DataW H} {q : List MemPlace}
    (hok : Value.okWide Tryz.prog W .any base 106 v) (h : DataW.Trod enc Tryz.prog W b0 sp hd 106 v d q) :
    ∃ (x : Se), v = .agg (seV x).toArray ∧ TB seC x := by
  unfold Value.okWide at hok
  rw [Tryz.underlying106] at hok
  obtain ⟨cs, rfl, hcs, _⟩ := hok
  obtain ⟨fuel, hf⟩ := h
  obtain ⟨x, hx, h1⟩ := trod_se hf
  refine ⟨x, ?_, h1⟩
  congr 1
  apply Array.ext'
  exact hx
end Go.Proofs.YtfgcfjojpakpjaaGreat
