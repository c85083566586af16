/- What the functions that read a message hand back. -/
import Derived.Test.YtfgcfjojpakpjaaGreatWIn4
set_option linter.unusedVariables false
set_option linter.unusedSimpArgs false
set_option maxRecDepth 100000
namespace Go.Proofs.YtfgcfjojpakpjaaGreat
open Go.Sx
def GotP {α : Type} (ret : Value) (ex : Int → Ending) (w : World) (rb bx : Nat) (T : TypeId) (u0 : Value) (l0 : List Int) (o : Option (α × List Int)) (V : α → Value → List Fact → Prop) : Ending → World → Prop := fun e w' => match o with
  | some (x, l') => Fr [rb, bx] w w' ∧ ∃ vs fs a n c, e = .returned ret ∧ V x (.agg vs.toArray) fs ∧ (∀ f ∈ fs, f.p w' ∧ ∀ k, f.fp k → w.heap.size ≤ k ∧ k < w'.heap.size) ∧ w'.heap[rb]? = some (row 139 [.slice a n c]) ∧ n ≤ c ∧ (∀ W, SlB W u0 l0 → SlB W (.slice a n c) l') ∧ w'.heap[bx]? = some (row T vs)
  | none => Fr [rb] w w' ∧ e = ex 60
/-- Bytes read as a whole. -/
def GetR {α : Type} (w : World) (o : Option α) (V : α → Value → List Fact → Prop) (z : Value) : Ending → World → Prop := fun e w' => Fr [] w w' ∧ match o with
  | some x => ∃ v fs, e = .returned (.tuple #[v, vi 0]) ∧ V x v fs ∧ ∀ f ∈ fs, f.p w' ∧ ∀ k, f.fp k → w.heap.size ≤ k ∧ k < w'.heap.size
  | none => e = .returned (.tuple #[z, vi 60])
theorem GetR.no {α : Type} {w w' : World} {o : Option α} {V : α → Value → List Fact → Prop} {z : Value} (ho : o = none) (hfr : Fr [] w w') : GetR w o V z (.returned (.tuple #[z, vi 60])) w' := by subst ho; exact ⟨hfr, rfl⟩
theorem GetR.yes {α : Type} {w w' : World} {o : Option α} {V : α → Value → List Fact → Prop} {z v : Value} {x : α} {fs : List Fact} (ho : o = some x) (hfr : Fr [] w w') (hV : V x v fs) (hf : ∀ f ∈ fs, f.p w' ∧ ∀ k, f.fp k → w.heap.size ≤ k ∧ k < w'.heap.size) : GetR w o V z (.returned (.tuple #[v, vi 0])) w' := by subst ho; exact ⟨hfr, v, fs, rfl, hV, hf⟩
theorem getW_1 {α : Type} {cd : Cdc α} {b : List Int} (h : cd.rn b = none) : getW cd b = none := by unfold getW; rw [h]
theorem getW_2 {α : Type} {cd : Cdc α} {b r : List Int} {x : α} (h : cd.rn b = some (x, r)) (hr : r ≠ []) : getW cd b = none := by
  unfold getW
  rw [h]
  cases r with
  | nil => exact absurd rfl hr
  | cons y r => rfl
theorem getW_3 {α : Type} {cd : Cdc α} {b : List Int} {x : α} (h : cd.rn b = some (x, [])) : getW cd b = some x := by unfold getW; rw [h]
theorem OkW.set2 {cx : Cx} {m : Mem} {fs fs2 : List Fact} {w w' : World} {i j b g : Nat} {p p' q q' : Obj} (h : OkW cx m fs w) (hi : m[i]? = some (b, p)) (hj : m[j]? = some (g, q)) (hij : i ≠ j) (hfr : Fr [b, g] w w') (hb : w'.heap[b]? = some p') (hg : w'.heap[g]? = some q')
    (hf : ∀ f ∈ fs2, f.p w' ∧ ∀ k, f.fp k → w.heap.size ≤ k ∧ k < w'.heap.size) : OkW cx ((m.set i (b, p')).set j (g, q')) (fs ++ fs2) w' := by
  have hk : ((m.set i (b, p')).set j (g, q')).map (·.1) = m.map (·.1) := by
    rw [nodup_set (b := g) (o := q) (by rw [List.getElem?_set_ne hij]; exact hj), nodup_set hi]
  have hbm : b ∈ m.map (·.1) := List.mem_map.2 ⟨_, List.mem_of_getElem? hi, rfl⟩
  have hgm : g ∈ m.map (·.1) := List.mem_map.2 ⟨_, List.mem_of_getElem? hj, rfl⟩
  have hmods : ∀ x ∈ [b, g], x ∈ m.map (·.1) := by
    intro x hx
    simp only [List.mem_cons, List.not_mem_nil, or_false] at hx
    rcases hx with rfl | rfl
    · exact hbm
    · exact hgm
  refine h.step hfr hmods (fun c o hc => ?_) (by rw [hk]; exact h.dis) (fun f hf' => ?_)
  · obtain ⟨k, hk2⟩ := List.mem_iff_getElem?.1 hc
    have hcm : c ∈ m.map (·.1) := by rw [← hk]; exact List.mem_map.2 ⟨_, hc, rfl⟩
    refine ⟨?_, .inr hcm⟩
    by_cases hkj : j = k
    · subst hkj
      have hlt := (List.getElem?_eq_some_iff.1 hj).1
      rw [List.getElem?_set_self (by simpa using hlt)] at hk2
      simp only [Option.some.injEq, Prod.mk.injEq] at hk2
      obtain ⟨rfl, rfl⟩ := hk2
      exact hg
    · rw [List.getElem?_set_ne hkj] at hk2
      by_cases hki : i = k
      · subst hki
        have hlt := (List.getElem?_eq_some_iff.1 hi).1
        rw [List.getElem?_set_self hlt] at hk2
        simp only [Option.some.injEq, Prod.mk.injEq] at hk2
        obtain ⟨rfl, rfl⟩ := hk2
        exact hb
      · rw [List.getElem?_set_ne hki] at hk2
        have n1 : c ≠ b := fun e => by subst e; exact hki (key_unique' h.dis hi hk2)
        have n2 : c ≠ g := fun e => by subst e; exact hkj (key_unique' h.dis hj hk2)
        exact (hfr.block c (h.lt hcm) (by simp only [List.mem_cons, List.not_mem_nil, or_false, not_or]; exact ⟨n1, n2⟩)).trans (h.mem c o (List.mem_of_getElem? hk2))
  · rcases List.mem_append.1 hf' with h1 | h1
    · exact .inl h1
    · right
      refine ⟨(hf f h1).1, fun k hk2 => ⟨((hf f h1).2 k hk2).2, fun hm => ?_⟩⟩
      rw [hk] at hm
      have := h.lt hm
      have := ((hf f h1).2 k hk2).1
      omega
/-- What is read under a try. -/
theorem tryIn_w {α : Type} (T : TypeId) (V : α → Value → List Fact → Prop) (CF : FuncId) (cap : Array Value) (w1 : World) (rb bx : Nat) (a : Option Addr) (n c : Nat) (u0 : Value) (l0 : List Int) (zs : List Value) (FS : List Fact) (o : Option (α × List Int)) (htx : Txt Tryz.prog CF)
    (hb : w1.heap[rb]? = some (row 139 [.slice a n c])) (hx : w1.heap[bx]? = some (row T zs)) (hne : rb ≠ bx) (hfs : ∀ f ∈ FS, f.p w1 ∧ ∀ k, f.fp k → k < w1.heap.size ∧ k ≠ rb ∧ k ≠ bx)
    (hc : ∀ w, w.heap[rb]? = some (row 139 [.slice a n c]) → w.heap[bx]? = some (row T zs) → (∀ f ∈ FS, f.p w ∧ ∀ k, f.fp k → k < w.heap.size ∧ k ≠ rb ∧ k ≠ bx) → Calls Tryz.prog CF cap w (GotP (.tuple #[]) (fun k => .panicked [stp 157 k]) w rb bx T u0 l0 o V)) :
    Calls Tryz.prog 32 #[.func (.func CF) #[] cap] w1 (GotP (vi 0) (fun k => .returned (vi k)) w1 rb bx T u0 l0 o V) := by
  have l1 : rb < w1.heap.size := (Array.getElem?_eq_some_iff.1 hb).1
  have l2 : bx < w1.heap.size := (Array.getElem?_eq_some_iff.1 hx).1
  cases o with
  | none =>
    refine (try_w CF #[] cap w1 [rb] (factO rb (row 139 [.slice a n c]) :: factO bx (row T zs) :: FS) (fun _ => False) (fun k _ => k = 60) htx (by simpa using l1) (fun f hf => ?_) (fun w hw hs => ?_)).mono ?_
    · rcases List.mem_cons.1 hf with rfl | hf
      · exact ⟨hb, fun k hk => by obtain rfl : k = rb := hk; exact l1⟩
      rcases List.mem_cons.1 hf with rfl | hf
      · exact ⟨hx, fun k hk => by obtain rfl : k = bx := hk; exact l2⟩
      · exact ⟨(hfs f hf).1, fun k hk => ((hfs f hf).2 k hk).1⟩
    · have h1 := hc w (hw _ (List.mem_cons_self ..)) (hw _ (List.mem_cons_of_mem _ (List.mem_cons_self ..))) (fun f hf => ⟨hw f (List.mem_cons_of_mem _ (List.mem_cons_of_mem _ hf)), fun k hk => ⟨Nat.lt_of_lt_of_le ((hfs f hf).2 k hk).1 hs, ((hfs f hf).2 k hk).2⟩⟩)
      refine (show Calls Tryz.prog CF (#[] ++ #[] ++ cap) w _ by rw [Array.empty_append, Array.empty_append]; exact h1).mono ?_
      rintro e w' ⟨hfr, rfl⟩
      exact ⟨hfr, .inr ⟨60, [], rfl, rfl, by simp⟩⟩
    · rintro e w' ⟨hfr, ⟨_, _, h, _⟩ | ⟨k, _, rfl, rfl, _⟩⟩
      · exact h.elim
      · exact ⟨hfr, rfl⟩
  | some p =>
    obtain ⟨x, l'⟩ := p
    refine (try_w CF #[] cap w1 [rb, bx] (factO rb (row 139 [.slice a n c]) :: factO bx (row T zs) :: FS) (fun fs' => ∃ vs fs a n c, V x (.agg vs.toArray) fs ∧ (∀ f ∈ fs, ∀ k, f.fp k → w1.heap.size ≤ k) ∧ n ≤ c ∧ (∀ W, SlB W u0 l0 → SlB W (.slice a n c) l') ∧ fs' = factO rb (row 139 [.slice a n c]) :: factO bx (row T vs) :: fs) (fun k _ => False) htx (by simpa using ⟨l1, l2⟩) (fun f hf => ?_) (fun w hw hs => ?_)).mono ?_
    · rcases List.mem_cons.1 hf with rfl | hf
      · exact ⟨hb, fun k hk => by obtain rfl : k = rb := hk; exact l1⟩
      rcases List.mem_cons.1 hf with rfl | hf
      · exact ⟨hx, fun k hk => by obtain rfl : k = bx := hk; exact l2⟩
      · exact ⟨(hfs f hf).1, fun k hk => ((hfs f hf).2 k hk).1⟩
    · have h1 := hc w (hw _ (List.mem_cons_self ..)) (hw _ (List.mem_cons_of_mem _ (List.mem_cons_self ..))) (fun f hf => ⟨hw f (List.mem_cons_of_mem _ (List.mem_cons_of_mem _ hf)), fun k hk => ⟨Nat.lt_of_lt_of_le ((hfs f hf).2 k hk).1 hs, ((hfs f hf).2 k hk).2⟩⟩)
      refine (show Calls Tryz.prog CF (#[] ++ #[] ++ cap) w _ by rw [Array.empty_append, Array.empty_append]; exact h1).mono ?_
      rintro e w' ⟨hfr, vs, fs, a', n', c', rfl, hV, hf', hb', hnc, hD, hx'⟩
      refine ⟨hfr, .inl ⟨_, _, rfl, ⟨vs, fs, a', n', c', hV, fun f hf k hk => Nat.le_trans hs ((hf' f hf).2 k hk).1, hnc, hD, rfl⟩, fun f hf => ?_⟩⟩
      rcases List.mem_cons.1 hf with rfl | hf
      · exact ⟨hb', fun k hk => by obtain rfl : k = rb := hk; exact ⟨(Array.getElem?_eq_some_iff.1 hb').1, .inl l1⟩⟩
      rcases List.mem_cons.1 hf with rfl | hf
      · exact ⟨hx', fun k hk => by obtain rfl : k = bx := hk; exact ⟨(Array.getElem?_eq_some_iff.1 hx').1, .inl l2⟩⟩
      · exact ⟨(hf' f hf).1, fun k hk => ⟨((hf' f hf).2 k hk).2, .inr ((hf' f hf).2 k hk).1⟩⟩
    · rintro e w' ⟨hfr, ⟨rfl, fs', ⟨vs, fs, a', n', c', hV, hn, hnc, hD, rfl⟩, hf⟩ | ⟨k, _, _, h, _⟩⟩
      · exact ⟨hfr, vs, fs, a', n', c', rfl, hV, fun f hf2 => ⟨(hf f (List.mem_cons_of_mem _ (List.mem_cons_of_mem _ hf2))).1, fun k hk => ⟨hn f hf2 k hk, (hf f (List.mem_cons_of_mem _ (List.mem_cons_of_mem _ hf2))).2 k hk⟩⟩, (hf _ (List.mem_cons_self ..)).1, hnc, hD, (hf _ (List.mem_cons_of_mem _ (List.mem_cons_self ..))).1⟩
      · exact h.elim
theorem agg_inj {a b : List Value} (h : Value.agg a.toArray = .agg b.toArray) : a = b := by
  injection h with h
  exact List.toArray_inj h
theorem okM2 {P : Program} {w : World} {nt : Nat} {b g : Nat} {p q : Obj} {fs : List Fact} (hb : w.heap[b]? = some p) (hg : w.heap[g]? = some q) (hne : b ≠ g) (hf : ∀ f ∈ fs, f.p w ∧ ∀ k, f.fp k → k < w.heap.size ∧ k ≠ b ∧ k ≠ g) : OkW { P := P, w0 := w, nt := nt, mods := [b, g] } [(b, p), (g, q)] fs w :=
  ⟨fun c o hc => by
    simp only [List.mem_cons, Prod.mk.injEq, List.not_mem_nil, or_false] at hc
    rcases hc with ⟨rfl, rfl⟩ | ⟨rfl, rfl⟩
    · exact hb
    · exact hg, by simpa using hne, fun c hc => .inr hc, fun f hf' => ⟨(hf f hf').1, fun k hk => ⟨((hf f hf').2 k hk).1, by simpa using ((hf f hf').2 k hk).2⟩⟩, Fr.refl _ _⟩
theorem okM1' {P : Program} {w : World} {nt : Nat} {b g : Nat} {p : Obj} {fs : List Fact} (hb : w.heap[b]? = some p) (hf : ∀ f ∈ fs, f.p w ∧ ∀ k, f.fp k → k < w.heap.size ∧ k ≠ b ∧ k ≠ g) : OkW { P := P, w0 := w, nt := nt, mods := [b] } [(b, p)] fs w :=
  okM1 hb fun f hf' => ⟨(hf f hf').1, fun k hk => ⟨((hf f hf').2 k hk).1, ((hf f hf').2 k hk).2.1⟩⟩
theorem OkW.dropG {cx : Cx} {m m' : Mem} {fs : List Fact} {w w' : World} {g : Nat} (h : OkW cx m fs w) (hfr : Fr [g] w w') (hg : g ∈ m.map (·.1)) (hs : List.Sublist m' m) (hn : g ∉ m'.map (·.1)) : OkW cx m' fs w' := by
  refine h.step hfr (by simpa using hg) (fun b o hb => ?_) ((hs.map _).nodup h.dis) (fun f hf => .inl hf)
  have hbm : b ∈ m'.map (·.1) := List.mem_map.2 ⟨_, hb, rfl⟩
  exact ⟨(hfr.block b (h.lt ((hs.map _).subset hbm)) (fun e => hn (by rw [← List.mem_singleton.1 e]; exact hbm))).trans (h.mem b o (hs.subset hb)), .inr ((hs.map _).subset hbm)⟩
theorem fx4 {cx : Cx} {b0 b1 b2 b3 b4 b5 : Nat} {p0 p1 p2 p3 p4 p5 : Obj} {f0 : Fact} {w : World} (h : OkW cx [(b0, p0), (b1, p1), (b2, p2), (b3, p3), (b4, p4), (b5, p5)] [f0] w) : b3 ≠ b1 ∧ ∀ f ∈ [f0, factO b4 p4, factO b0 p0, factO b5 p5], f.p w ∧ ∀ k, f.fp k → k < w.heap.size ∧ k ≠ b3 ∧ k ≠ b1 := by
  have hd := h.dis
  simp only [List.map_cons, List.map_nil, List.nodup_cons, List.mem_cons, List.not_mem_nil, or_false, not_or, not_false_eq_true, List.nodup_nil, and_true] at hd
  obtain ⟨⟨d01, d02, d03, d04, d05⟩, ⟨d12, d13, d14, d15⟩, ⟨d23, d24, d25⟩, ⟨d34, d35⟩, d45⟩ := hd
  refine ⟨fun e => d13 e.symm, fun f hf => ?_⟩
  simp only [List.mem_cons, List.not_mem_nil, or_false] at hf
  rcases hf with rfl | rfl | rfl | rfl
  · have h1 := h.facts _ (List.mem_singleton.2 rfl)
    exact ⟨h1.1, fun k hk => ⟨(h1.2 k hk).1, fun e => (h1.2 k hk).2 (by subst e; simp), fun e => (h1.2 k hk).2 (by subst e; simp)⟩⟩
  · exact ⟨h.at (i := 4) rfl, fun k hk => by obtain rfl : k = b4 := hk; exact ⟨h.lt (by simp), fun e => d34 e.symm, fun e => d14 e.symm⟩⟩
  · exact ⟨h.at (i := 0) rfl, fun k hk => by obtain rfl : k = b0 := hk; exact ⟨h.lt (by simp), d03, d01⟩⟩
  · exact ⟨h.at (i := 5) rfl, fun k hk => by obtain rfl : k = b5 := hk; exact ⟨h.lt (by simp), fun e => d35 e.symm, fun e => d15 e.symm⟩⟩
theorem dropGot {cx : Cx} {b0 b1 b2 b3 b4 b5 : Nat} {p0 p1 p2 p3 p4 p5 : Obj} {fs : List Fact} {w w' : World} (h : OkW cx [(b0, p0), (b1, p1), (b2, p2), (b3, p3), (b4, p4), (b5, p5)] fs w) (hfr : Fr [b3] w w') : OkW cx [(b1, p1), (b2, p2)] fs w' := by
  have hd := h.dis
  simp only [List.map_cons, List.map_nil, List.nodup_cons, List.mem_cons, List.not_mem_nil, or_false, not_or, not_false_eq_true, List.nodup_nil, and_true] at hd
  obtain ⟨⟨d01, d02, d03, d04, d05⟩, ⟨d12, d13, d14, d15⟩, ⟨d23, d24, d25⟩, ⟨d34, d35⟩, d45⟩ := hd
  refine OkW.dropG h hfr (by simp) (.cons _ (.cons_cons _ (.cons_cons _ (List.nil_sublist _)))) (fun e => ?_)
  simp only [List.map_cons, List.map_nil, List.mem_cons, List.not_mem_nil, or_false] at e
  rcases e with e | e
  · exact d13 e.symm
  · exact d23 e.symm
theorem OkW.fr0F {cx : Cx} {m : Mem} {fs fs2 : List Fact} {w w' : World} (h : OkW cx m fs w) (hfr : Fr [] w w') (hf : ∀ f ∈ fs2, f.p w' ∧ ∀ k, f.fp k → w.heap.size ≤ k ∧ k < w'.heap.size) : OkW cx m (fs ++ fs2) w' := by
  have h1 := h.fr0 hfr
  refine ⟨h1.mem, h1.dis, h1.may, fun f hf2 => ?_, h1.fr⟩
  rcases List.mem_append.1 hf2 with h2 | h2
  · exact h1.facts f h2
  · refine ⟨(hf f h2).1, fun k hk2 => ⟨((hf f h2).2 k hk2).2, fun hm => ?_⟩⟩
    have := h.lt hm
    have := ((hf f h2).2 k hk2).1
    omega
theorem bdIn (b : Nat) (w : World) : (Instr.build 113 [(0, .pointer (some ⟨b, 0, none⟩))].toArray).run Tryz.prog w = .ok (.agg [.pointer (some ⟨b, 0, none⟩)].toArray) w := by kernel_rfl
theorem sz27m : (Tryz.prog.info? 27).map (·.size) = some 38 := by kernel_rfl
theorem sz38m : (Tryz.prog.info? 38).map (·.size) = some 43 := by kernel_rfl
theorem sz49m : (Tryz.prog.info? 49).map (·.size) = some 97 := by kernel_rfl
theorem sz73m : (Tryz.prog.info? 73).map (·.size) = some 1 := by kernel_rfl
theorem sz110m : (Tryz.prog.info? 110).map (·.size) = some 1 := by kernel_rfl
theorem tx27m : Txt Tryz.prog 27 := txt_of Tryz.func27 rfl (by kernel_rfl)
theorem tx28m : Txt Tryz.prog 28 := txt_of Tryz.func28 rfl (by kernel_rfl)
theorem tx32m : Txt Tryz.prog 32 := txt_of Tryz.func32 rfl (by kernel_rfl)
theorem tx35m : Txt Tryz.prog 35 := txt_of Tryz.func35 rfl (by kernel_rfl)
theorem tx36m : Txt Tryz.prog 36 := txt_of Tryz.func36 rfl (by kernel_rfl)
theorem tx47m : Txt Tryz.prog 47 := txt_of Tryz.func47 rfl (by kernel_rfl)
theorem tx48m : Txt Tryz.prog 48 := txt_of Tryz.func48 rfl (by kernel_rfl)
theorem tx58m : Txt Tryz.prog 58 := txt_of Tryz.func58 rfl (by kernel_rfl)
theorem tx59m : Txt Tryz.prog 59 := txt_of Tryz.func59 rfl (by kernel_rfl)
theorem tx60m : Txt Tryz.prog 60 := txt_of Tryz.func60 rfl (by kernel_rfl)
theorem tx71m : Txt Tryz.prog 71 := txt_of Tryz.func71 rfl (by kernel_rfl)
theorem tx77m : Txt Tryz.prog 77 := txt_of Tryz.func77 rfl (by kernel_rfl)
theorem z27m : (Tryz.prog.info? 27).bind (·.zero) = some (.agg (cmdV (0, 0, 0, ⟨#[]⟩, ⟨#[]⟩, 0, dz)).toArray) := by kernel_rfl
theorem z38m : (Tryz.prog.info? 38).bind (·.zero) = some (.agg (enV (0, 0, 0, (0, 0, 0, ⟨#[]⟩, ⟨#[]⟩, 0, dz), ([], [])) (.slice none 0 0) (.slice none 0 0)).toArray) := by kernel_rfl
theorem z49m : (Tryz.prog.info? 49).bind (·.zero) = some (.agg (sgV ((0, dz, dz), dz)).toArray) := by kernel_rfl
theorem z73m : (Tryz.prog.info? 73).bind (·.zero) = some (.pointer none) := by kernel_rfl

theorem gsigned_no (rb ib br bi bx : Nat) (u0 : Value) (l0 : List Int) (F : FuncId) (htx : Txt Tryz.prog F) (hone : Rds F #[.pointer (some ⟨ib, 0, none⟩)] (sgC).rn (Va sgV) rb ib u0 l0) (w : World) (a : Option Addr) (n c : Nat) (l : List Int) (hb : w.heap[rb]? = some (row 139 [.slice a n c])) (hx : w.heap[bx]? = some (row 49 (sgV ((0, dz, dz), dz)))) (hne : rb ≠ bx) (hFS : ∀ f ∈ [factB u0 l0, factO ib (inO rb), factO br (row 94 [.func (.func F) #[] #[]]), factO bi (row 73 [.pointer (some ⟨ib, 0, none⟩)])], f.p w ∧ ∀ k, f.fp k → k < w.heap.size ∧ k ≠ rb ∧ k ≠ bx) (hD : ∀ W, SlB W u0 l0 → SlB W (.slice a n c) l) (hby : Byt l) (hcn : n ≤ c) (hl : l.length ≤ 1099511627776) (hG : (sgC).rn l = none) :
    Calls Tryz.prog 77 #[.pointer (some ⟨br, 0, none⟩), .pointer (some ⟨bi, 0, none⟩), .pointer (some ⟨bx, 0, none⟩)] w fun e w' => GotP (.tuple #[]) (fun k => .panicked [stp 157 k]) w rb bx 49 u0 l0 (none) (Va sgV) e w' := by
  refine calls_of_p (args := [.pointer (some ⟨br, 0, none⟩), .pointer (some ⟨bi, 0, none⟩), .pointer (some ⟨bx, 0, none⟩)]) ([rb]) ([rdM rb a n c]) ([factB u0 l0, factO ib (inO rb), factO br (row 94 [.func (.func F) #[] #[]]), factO bi (row 73 [.pointer (some ⟨ib, 0, none⟩)])]) Tryz.func77 rfl rfl (okM1' hb hFS) ?_
  refine J_regionP ?_
  refine LP_one ?_
  refine L_v rfl rfl rfl (V_load rfl rfl Tryz.underlying94 rfl (fun w hw => cell_of (hw.facts _ (List.mem_cons_of_mem _ (List.mem_cons_of_mem _ (List.mem_cons_self ..)))).1 rfl)) ?_
  refine L_nil ?_
  refine LP_one ?_
  refine L_v rfl rfl rfl (V_load rfl rfl Tryz.underlying73 rfl (fun w hw => cell_of (hw.facts _ (List.mem_cons_of_mem _ (List.mem_cons_of_mem _ (List.mem_cons_of_mem _ (List.mem_cons_self ..))))).1 rfl)) ?_
  refine L_nil ?_
  refine LP_in 0 rfl rfl rfl rfl rfl rfl htx rfl (fun w1 hw => hone w1 _ _ _ _ (hw.at (i := 0) rfl) (fxIn hw rfl) hD hby hcn hl) (fun hk => KretP_panic rfl (fun w' h => ⟨h.fr, rfl⟩)) (fun p1 l1 v1 fs1 a1 n1 c1 hr1 hV1 hc1 hD1 hnw1 => ?_)
  rw [hG] at hr1
  cases hr1

theorem gsigned_yes (rb ib br bi bx : Nat) (u0 : Value) (l0 : List Int) (F : FuncId) (htx : Txt Tryz.prog F) (hone : Rds F #[.pointer (some ⟨ib, 0, none⟩)] (sgC).rn (Va sgV) rb ib u0 l0) (x0 : _) (lx : List Int) (w : World) (a : Option Addr) (n c : Nat) (l : List Int) (hb : w.heap[rb]? = some (row 139 [.slice a n c])) (hx : w.heap[bx]? = some (row 49 (sgV ((0, dz, dz), dz)))) (hne : rb ≠ bx) (hFS : ∀ f ∈ [factB u0 l0, factO ib (inO rb), factO br (row 94 [.func (.func F) #[] #[]]), factO bi (row 73 [.pointer (some ⟨ib, 0, none⟩)])], f.p w ∧ ∀ k, f.fp k → k < w.heap.size ∧ k ≠ rb ∧ k ≠ bx) (hD : ∀ W, SlB W u0 l0 → SlB W (.slice a n c) l) (hby : Byt l) (hcn : n ≤ c) (hl : l.length ≤ 1099511627776) (hG : (sgC).rn l = some (x0, lx)) :
    Calls Tryz.prog 77 #[.pointer (some ⟨br, 0, none⟩), .pointer (some ⟨bi, 0, none⟩), .pointer (some ⟨bx, 0, none⟩)] w fun e w' => GotP (.tuple #[]) (fun k => .panicked [stp 157 k]) w rb bx 49 u0 l0 (some (x0, lx)) (Va sgV) e w' := by
  refine calls_of_p (args := [.pointer (some ⟨br, 0, none⟩), .pointer (some ⟨bi, 0, none⟩), .pointer (some ⟨bx, 0, none⟩)]) ([rb, bx]) ([rdM rb a n c, (bx, row 49 (sgV ((0, dz, dz), dz)))]) ([factB u0 l0, factO ib (inO rb), factO br (row 94 [.func (.func F) #[] #[]]), factO bi (row 73 [.pointer (some ⟨ib, 0, none⟩)])]) Tryz.func77 rfl rfl (okM2 hb hx hne hFS) ?_
  refine J_regionP ?_
  refine LP_one ?_
  refine L_v rfl rfl rfl (V_load rfl rfl Tryz.underlying94 rfl (fun w hw => cell_of (hw.facts _ (List.mem_cons_of_mem _ (List.mem_cons_of_mem _ (List.mem_cons_self ..)))).1 rfl)) ?_
  refine L_nil ?_
  refine LP_one ?_
  refine L_v rfl rfl rfl (V_load rfl rfl Tryz.underlying73 rfl (fun w hw => cell_of (hw.facts _ (List.mem_cons_of_mem _ (List.mem_cons_of_mem _ (List.mem_cons_of_mem _ (List.mem_cons_self ..))))).1 rfl)) ?_
  refine L_nil ?_
  refine LP_in 0 rfl rfl rfl rfl rfl rfl htx rfl (fun w1 hw => hone w1 _ _ _ _ (hw.at (i := 0) rfl) (fxIn hw rfl) hD hby hcn hl) (fun hk => (by rw [hG] at hk; cases hk)) (fun p1 l1 v1 fs1 a1 n1 c1 hr1 hV1 hc1 hD1 hnw1 => ?_)
  rw [hG] at hr1
  simp only [Option.some.injEq, Prod.mk.injEq] at hr1
  obtain ⟨rfl, rfl⟩ := hr1
  obtain ⟨rfl, rfl⟩ := hV1
  refine LP_one ?_
  refine L_storeW 1 rfl rfl rfl rfl rfl rfl (szd sz49m (by kernel_rfl)) (all_one (by kernel_rfl)) (by kernel_rfl) ?_
  refine L_nil ?_
  refine LP_nil ?_
  change KretP _ _ _ Exit.normal _
  refine KretP_normal ?_
  refine KretP_plain ?_
  refine ret0 rfl rfl  ?_
  exact fun w' h => ⟨h.fr, _, _, a1, n1, c1, rfl, ⟨rfl, rfl⟩, inFacts h (fun f hf => List.mem_cons_of_mem _ (List.mem_cons_of_mem _ (List.mem_cons_of_mem _ (List.mem_cons_of_mem _ hf)))) hnw1, h.at (i := 0) rfl, hc1, hD1, h.at (i := 1) rfl⟩

theorem gsigned_w (rb ib br bi bx : Nat) (u0 : Value) (l0 : List Int) (F : FuncId) (htx : Txt Tryz.prog F) (hone : Rds F #[.pointer (some ⟨ib, 0, none⟩)] (sgC).rn (Va sgV) rb ib u0 l0) (w : World) (a : Option Addr) (n c : Nat) (l : List Int) (hb : w.heap[rb]? = some (row 139 [.slice a n c])) (hx : w.heap[bx]? = some (row 49 (sgV ((0, dz, dz), dz)))) (hne : rb ≠ bx) (hFS : ∀ f ∈ [factB u0 l0, factO ib (inO rb), factO br (row 94 [.func (.func F) #[] #[]]), factO bi (row 73 [.pointer (some ⟨ib, 0, none⟩)])], f.p w ∧ ∀ k, f.fp k → k < w.heap.size ∧ k ≠ rb ∧ k ≠ bx) (hD : ∀ W, SlB W u0 l0 → SlB W (.slice a n c) l) (hby : Byt l) (hcn : n ≤ c) (hl : l.length ≤ 1099511627776) :
    Calls Tryz.prog 77 #[.pointer (some ⟨br, 0, none⟩), .pointer (some ⟨bi, 0, none⟩), .pointer (some ⟨bx, 0, none⟩)] w (GotP (.tuple #[]) (fun k => .panicked [stp 157 k]) w rb bx 49 u0 l0 ((sgC).rn l) (Va sgV)) := by
  cases hG : (sgC).rn l with
  | none => exact gsigned_no rb ib br bi bx u0 l0 F htx hone w a n c l hb hx hne hFS hD hby hcn hl hG
  | some p => exact gsigned_yes rb ib br bi bx u0 l0 F htx hone p.1 p.2 w a n c l hb hx hne hFS hD hby hcn hl hG

theorem gotsigned_w (F : FuncId) (htx : Txt Tryz.prog F) (a : Option Addr) (n c : Nat) (l : List Int) (hone : ∀ rb ib, Rds F #[.pointer (some ⟨ib, 0, none⟩)] (sgC).rn (Va sgV) rb ib (.slice a n c) l) (w : World) (hu : SlB w (.slice a n c) l) (hby : Byt l) (hcn : n ≤ c) (hl : l.length ≤ 1099511627776) :
    Calls Tryz.prog 47 #[.slice a n c, .func (.func F) #[] #[]] w fun e w' => GetR w (getW (sgC) l) (Va sgV) (.agg (sgV ((0, dz, dz), dz)).toArray) e w' := by
  refine calls_of (args := [.slice a n c, .func (.func F) #[] #[]]) ([]) ([]) ([factB (.slice a n c) l]) Tryz.func47 rfl rfl (okW_facts (fun f hf => by obtain rfl := List.mem_singleton.1 hf; exact ⟨hu, factB_lt hu⟩)) ?_
  rcases hG : (sgC).rn l with _ | ⟨x, l1⟩
  ·
    refine J_seq ?_
    refine J_region ?_
    refine L_box rfl rfl rfl rfl rfl (fun b0 => ?_)
    refine L_alloc rfl rfl rfl rfl z49m (fun b1 => ?_)
    refine L_v rfl rfl rfl (V_assign rfl rfl) ?_
    refine L_nil ?_
    change J _ _ _ _
    refine J_seq ?_
    refine J_region ?_
    refine L_alloc rfl rfl rfl rfl z49m (fun b2 => ?_)
    refine L_nil ?_
    change J _ _ _ _
    refine J_seq ?_
    refine J_region ?_
    refine L_v rfl rfl rfl (V_move rfl rfl) ?_
    refine L_call rfl rfl rfl rfl tx58m (fun w1 hw => (new_w a n c w1).mono ?_)
    rintro e w' ⟨b3, rfl, hfr, hsz, hb3⟩
    refine ⟨_, _, _, rfl, hw.add hfr hb3 hsz, rfl, ?_⟩
    refine L_v rfl rfl rfl (V_build (vs := [(0, .pointer (some ⟨b3, 0, none⟩))]) rfl rfl (bdIn b3)) ?_
    refine L_box rfl rfl rfl rfl rfl (fun b4 => ?_)
    refine L_alloc rfl rfl rfl rfl z73m (fun b5 => ?_)
    refine L_store1 5 rfl rfl rfl rfl rfl rfl rfl sz73m (by first | exact Nat.zero_lt_succ _ | (simp only [dg_length, List.length_append, List.length_take, List.length_drop, zd_length]; omega) | omega) (by first | rfl | exact dg_set _ _ _) ?_
    refine L_nil ?_
    change J _ _ _ _
    refine J_seq ?_
    refine J_region ?_
    refine L_v rfl rfl rfl (V_makeFunc rfl rfl rfl) ?_
    refine L_call rfl rfl rfl rfl tx32m (fun w1 hw => (tryIn_w 49 (Va sgV) 77 #[.pointer (some ⟨b0, 0, none⟩), .pointer (some ⟨b5, 0, none⟩), .pointer (some ⟨b1, 0, none⟩)] w1 b3 b1 a n c (.slice a n c) l (sgV ((0, dz, dz), dz)) [factB (.slice a n c) l, factO b4 (inO b3), factO b0 (row 94 [.func (.func F) #[] #[]]), factO b5 (row 73 [.pointer (some ⟨b4, 0, none⟩)])] ((sgC).rn l) tx77m (hw.at (i := 3) rfl) (hw.at (i := 1) rfl) (fx4 hw).1 (fx4 hw).2 (fun w2 h1 h2 h3 => gsigned_w b3 b4 b0 b5 b1 (.slice a n c) l F htx (hone b3 b4) w2 a n c l h1 h2 (fx4 hw).1 h3 (fun W h => h) hby hcn hl)).mono ?_)
    rw [hG]
    rintro e w' ⟨hfr, rfl⟩
    refine ⟨_, [(b1, row 49 (sgV ((0, dz, dz), dz))), (b2, row 49 (sgV ((0, dz, dz), dz)))], [factB (.slice a n c) l], rfl, dropGot hw hfr, rfl, ?_⟩
    refine L_v rfl rfl rfl (V_assign rfl rfl) ?_
    refine L_nil ?_
    change J _ _ _ _
    refine J_seq ?_
    refine J_seq ?_
    refine J_region ?_
    refine L_v rfl rfl rfl (V_move rfl rfl) ?_
    refine L_v rfl rfl rfl (V_neq rfl rfl rfl (by first | exact decide_eq_true (by omega) | exact decide_eq_false (by omega) | rfl)) ?_
    refine L_v rfl rfl rfl (V_move rfl rfl) ?_
    refine L_skip rfl rfl rfl rfl rfl rfl rfl ?_
    refine L_skip rfl rfl rfl rfl rfl rfl rfl ?_
    refine L_skip rfl rfl rfl rfl rfl rfl rfl ?_
    refine L_skip rfl rfl rfl rfl rfl rfl rfl ?_
    refine L_skip rfl rfl rfl rfl rfl rfl rfl ?_
    refine L_skip rfl rfl rfl rfl rfl rfl rfl ?_
    first | refine L_v rfl rfl rfl (V_pickT rfl rfl rfl) ?_ | refine L_v rfl rfl rfl (V_pickF rfl rfl rfl) ?_
    refine L_nil ?_
    change J _ _ _ _
    refine J_true rfl ?_
    refine J_seq ?_
    refine J_region ?_
    refine L_v rfl rfl rfl (V_loadW 1 rfl rfl rfl Tryz.underlying49 rfl (szd sz49m (by kernel_rfl))) ?_
    refine L_storeW 0 rfl rfl rfl rfl rfl rfl (szd sz49m (by kernel_rfl)) (all_one (by kernel_rfl)) (by kernel_rfl) ?_
    refine L_v rfl rfl rfl (V_assign rfl rfl) ?_
    refine L_nil ?_
    change J _ _ _ _
    refine J_ret ?_
    change Kret _ _ _ Exit.ret _
    refine ret2 rfl rfl (RV_c 0 rfl rfl Tryz.underlying49 rfl (szd sz49m (by kernel_rfl))) (RV_t rfl) ?_
    exact fun w' h => GetR.no (getW_1 hG) h.fr
  ·
    by_cases hl1 : l1 = []
    ·
      skip
      refine J_seq ?_
      refine J_region ?_
      refine L_box rfl rfl rfl rfl rfl (fun b0 => ?_)
      refine L_alloc rfl rfl rfl rfl z49m (fun b1 => ?_)
      refine L_v rfl rfl rfl (V_assign rfl rfl) ?_
      refine L_nil ?_
      change J _ _ _ _
      refine J_seq ?_
      refine J_region ?_
      refine L_alloc rfl rfl rfl rfl z49m (fun b2 => ?_)
      refine L_nil ?_
      change J _ _ _ _
      refine J_seq ?_
      refine J_region ?_
      refine L_v rfl rfl rfl (V_move rfl rfl) ?_
      refine L_call rfl rfl rfl rfl tx58m (fun w1 hw => (new_w a n c w1).mono ?_)
      rintro e w' ⟨b3, rfl, hfr, hsz, hb3⟩
      refine ⟨_, _, _, rfl, hw.add hfr hb3 hsz, rfl, ?_⟩
      refine L_v rfl rfl rfl (V_build (vs := [(0, .pointer (some ⟨b3, 0, none⟩))]) rfl rfl (bdIn b3)) ?_
      refine L_box rfl rfl rfl rfl rfl (fun b4 => ?_)
      refine L_alloc rfl rfl rfl rfl z73m (fun b5 => ?_)
      refine L_store1 5 rfl rfl rfl rfl rfl rfl rfl sz73m (by first | exact Nat.zero_lt_succ _ | (simp only [dg_length, List.length_append, List.length_take, List.length_drop, zd_length]; omega) | omega) (by first | rfl | exact dg_set _ _ _) ?_
      refine L_nil ?_
      change J _ _ _ _
      refine J_seq ?_
      refine J_region ?_
      refine L_v rfl rfl rfl (V_makeFunc rfl rfl rfl) ?_
      refine L_call rfl rfl rfl rfl tx32m (fun w1 hw => (tryIn_w 49 (Va sgV) 77 #[.pointer (some ⟨b0, 0, none⟩), .pointer (some ⟨b5, 0, none⟩), .pointer (some ⟨b1, 0, none⟩)] w1 b3 b1 a n c (.slice a n c) l (sgV ((0, dz, dz), dz)) [factB (.slice a n c) l, factO b4 (inO b3), factO b0 (row 94 [.func (.func F) #[] #[]]), factO b5 (row 73 [.pointer (some ⟨b4, 0, none⟩)])] ((sgC).rn l) tx77m (hw.at (i := 3) rfl) (hw.at (i := 1) rfl) (fx4 hw).1 (fx4 hw).2 (fun w2 h1 h2 h3 => gsigned_w b3 b4 b0 b5 b1 (.slice a n c) l F htx (hone b3 b4) w2 a n c l h1 h2 (fx4 hw).1 h3 (fun W h => h) hby hcn hl)).mono ?_)
      rw [hG]
      rintro e w' ⟨hfr, vs, fs9, a9, n9, c9, rfl, hV, hf9, hb9, hnc9, hD9, hx9⟩
      have hz9 := (hD9 w1 (fB hw 0 rfl)).size
      have hz8 : n9 = 0 := by rw [← hz9, hl1]; rfl
      have hnw9 : ∀ f ∈ fs9, ∀ k, f.fp k → w.heap.size ≤ k := fun f hf k hk => Nat.le_trans hw.fr.size ((hf9 f hf).2 k hk).1
      obtain ⟨e9, rfl⟩ := hV
      obtain rfl : vs = sgV x := agg_inj e9
      refine ⟨_, _, _, rfl, OkW.set2 hw (i := 3) (j := 1) rfl rfl (by decide) hfr hb9 hx9 hf9, rfl, ?_⟩
      refine L_v rfl rfl rfl (V_assign rfl rfl) ?_
      refine L_nil ?_
      change J _ _ _ _
      refine J_seq ?_
      refine J_seq ?_
      refine J_region ?_
      refine L_v rfl rfl rfl (V_move rfl rfl) ?_
      refine L_v rfl rfl rfl (V_neq rfl rfl rfl (by first | exact decide_eq_true (by omega) | exact decide_eq_false (by omega) | rfl)) ?_
      refine L_v rfl rfl rfl (V_move rfl rfl) ?_
      refine L_wv rfl rfl rfl rfl rfl rfl (V_load1 5 rfl rfl rfl Tryz.underlying73 rfl (by first | rfl | exact dg_get (by omega) (by omega))) ?_
      refine L_wv rfl rfl rfl rfl rfl rfl (V_nilCheck rfl rfl) ?_
      refine L_wv rfl rfl rfl rfl rfl rfl (V_fieldAddr rfl rfl Tryz.underlying113 rfl sz110m rfl) ?_
      refine L_wv rfl rfl rfl rfl rfl rfl (V_load1 4 rfl rfl rfl Tryz.underlying110 rfl rfl) ?_
      refine L_wcallV rfl rfl rfl rfl rfl rfl rfl rfl rfl tx60m (fun w1 hw => left_w b3 a9 n9 c9 w1 (hw.at (i := 3) rfl)) ?_
      refine L_wv rfl rfl rfl rfl rfl rfl (V_gtr rfl rfl rfl (by first | exact decide_eq_true (by omega) | exact decide_eq_false (by omega) | rfl)) ?_
      first | refine L_v rfl rfl rfl (V_pickT rfl rfl rfl) ?_ | refine L_v rfl rfl rfl (V_pickF rfl rfl rfl) ?_
      refine L_nil ?_
      change J _ _ _ _
      skip
      refine J_false rfl ?_
      refine J_skip ?_
      change J _ _ _ _
      refine J_seq ?_
      refine J_region ?_
      refine L_v rfl rfl rfl (V_loadW 1 rfl rfl rfl Tryz.underlying49 rfl (szd sz49m (by kernel_rfl))) ?_
      refine L_storeW 1 rfl rfl rfl rfl rfl rfl (szd sz49m (by kernel_rfl)) (all_one (by kernel_rfl)) (by kernel_rfl) ?_
      refine L_v rfl rfl rfl (V_assign rfl rfl) ?_
      refine L_nil ?_
      change J _ _ _ _
      refine J_ret ?_
      change Kret _ _ _ Exit.ret _
      refine ret2 rfl rfl (RV_c 1 rfl rfl Tryz.underlying49 rfl (szd sz49m (by kernel_rfl))) (RV_t rfl) ?_
      exact fun w' h => GetR.yes (getW_3 (by rw [hG, hl1])) h.fr ⟨rfl, rfl⟩ (inFacts h (fun f hf => List.mem_cons_of_mem _ hf) hnw9)
    ·
      refine J_seq ?_
      refine J_region ?_
      refine L_box rfl rfl rfl rfl rfl (fun b0 => ?_)
      refine L_alloc rfl rfl rfl rfl z49m (fun b1 => ?_)
      refine L_v rfl rfl rfl (V_assign rfl rfl) ?_
      refine L_nil ?_
      change J _ _ _ _
      refine J_seq ?_
      refine J_region ?_
      refine L_alloc rfl rfl rfl rfl z49m (fun b2 => ?_)
      refine L_nil ?_
      change J _ _ _ _
      refine J_seq ?_
      refine J_region ?_
      refine L_v rfl rfl rfl (V_move rfl rfl) ?_
      refine L_call rfl rfl rfl rfl tx58m (fun w1 hw => (new_w a n c w1).mono ?_)
      rintro e w' ⟨b3, rfl, hfr, hsz, hb3⟩
      refine ⟨_, _, _, rfl, hw.add hfr hb3 hsz, rfl, ?_⟩
      refine L_v rfl rfl rfl (V_build (vs := [(0, .pointer (some ⟨b3, 0, none⟩))]) rfl rfl (bdIn b3)) ?_
      refine L_box rfl rfl rfl rfl rfl (fun b4 => ?_)
      refine L_alloc rfl rfl rfl rfl z73m (fun b5 => ?_)
      refine L_store1 5 rfl rfl rfl rfl rfl rfl rfl sz73m (by first | exact Nat.zero_lt_succ _ | (simp only [dg_length, List.length_append, List.length_take, List.length_drop, zd_length]; omega) | omega) (by first | rfl | exact dg_set _ _ _) ?_
      refine L_nil ?_
      change J _ _ _ _
      refine J_seq ?_
      refine J_region ?_
      refine L_v rfl rfl rfl (V_makeFunc rfl rfl rfl) ?_
      refine L_call rfl rfl rfl rfl tx32m (fun w1 hw => (tryIn_w 49 (Va sgV) 77 #[.pointer (some ⟨b0, 0, none⟩), .pointer (some ⟨b5, 0, none⟩), .pointer (some ⟨b1, 0, none⟩)] w1 b3 b1 a n c (.slice a n c) l (sgV ((0, dz, dz), dz)) [factB (.slice a n c) l, factO b4 (inO b3), factO b0 (row 94 [.func (.func F) #[] #[]]), factO b5 (row 73 [.pointer (some ⟨b4, 0, none⟩)])] ((sgC).rn l) tx77m (hw.at (i := 3) rfl) (hw.at (i := 1) rfl) (fx4 hw).1 (fx4 hw).2 (fun w2 h1 h2 h3 => gsigned_w b3 b4 b0 b5 b1 (.slice a n c) l F htx (hone b3 b4) w2 a n c l h1 h2 (fx4 hw).1 h3 (fun W h => h) hby hcn hl)).mono ?_)
      rw [hG]
      rintro e w' ⟨hfr, vs, fs9, a9, n9, c9, rfl, hV, hf9, hb9, hnc9, hD9, hx9⟩
      have hz9 := (hD9 w1 (fB hw 0 rfl)).size
      have hz8 : 0 < n9 := by rw [← hz9]; exact List.length_pos_iff.2 hl1
      have hnw9 : ∀ f ∈ fs9, ∀ k, f.fp k → w.heap.size ≤ k := fun f hf k hk => Nat.le_trans hw.fr.size ((hf9 f hf).2 k hk).1
      obtain ⟨e9, rfl⟩ := hV
      obtain rfl : vs = sgV x := agg_inj e9
      refine ⟨_, _, _, rfl, OkW.set2 hw (i := 3) (j := 1) rfl rfl (by decide) hfr hb9 hx9 hf9, rfl, ?_⟩
      refine L_v rfl rfl rfl (V_assign rfl rfl) ?_
      refine L_nil ?_
      change J _ _ _ _
      refine J_seq ?_
      refine J_seq ?_
      refine J_region ?_
      refine L_v rfl rfl rfl (V_move rfl rfl) ?_
      refine L_v rfl rfl rfl (V_neq rfl rfl rfl (by first | exact decide_eq_true (by omega) | exact decide_eq_false (by omega) | rfl)) ?_
      refine L_v rfl rfl rfl (V_move rfl rfl) ?_
      refine L_wv rfl rfl rfl rfl rfl rfl (V_load1 5 rfl rfl rfl Tryz.underlying73 rfl (by first | rfl | exact dg_get (by omega) (by omega))) ?_
      refine L_wv rfl rfl rfl rfl rfl rfl (V_nilCheck rfl rfl) ?_
      refine L_wv rfl rfl rfl rfl rfl rfl (V_fieldAddr rfl rfl Tryz.underlying113 rfl sz110m rfl) ?_
      refine L_wv rfl rfl rfl rfl rfl rfl (V_load1 4 rfl rfl rfl Tryz.underlying110 rfl rfl) ?_
      refine L_wcallV rfl rfl rfl rfl rfl rfl rfl rfl rfl tx60m (fun w1 hw => left_w b3 a9 n9 c9 w1 (hw.at (i := 3) rfl)) ?_
      refine L_wv rfl rfl rfl rfl rfl rfl (V_gtr rfl rfl rfl (by first | exact decide_eq_true (by omega) | exact decide_eq_false (by omega) | rfl)) ?_
      first | refine L_v rfl rfl rfl (V_pickT rfl rfl rfl) ?_ | refine L_v rfl rfl rfl (V_pickF rfl rfl rfl) ?_
      refine L_nil ?_
      change J _ _ _ _
      refine J_true rfl ?_
      refine J_seq ?_
      refine J_region ?_
      refine L_v rfl rfl rfl (V_loadW 2 rfl rfl rfl Tryz.underlying49 rfl (szd sz49m (by kernel_rfl))) ?_
      refine L_storeW 1 rfl rfl rfl rfl rfl rfl (szd sz49m (by kernel_rfl)) (all_one (by kernel_rfl)) (by kernel_rfl) ?_
      refine L_v rfl rfl rfl (V_assign rfl rfl) ?_
      refine L_nil ?_
      change J _ _ _ _
      refine J_ret ?_
      change Kret _ _ _ Exit.ret _
      refine ret2 rfl rfl (RV_c 1 rfl rfl Tryz.underlying49 rfl (szd sz49m (by kernel_rfl))) (RV_t rfl) ?_
      exact fun w' h => GetR.no (getW_2 hG hl1) h.fr

theorem getsigned_w (a : Option Addr) (n c : Nat) (l : List Int) (w : World) (hu : SlB w (.slice a n c) l) (hby : Byt l) (hcn : n ≤ c) (hl : l.length ≤ 1099511627776) :
    Calls Tryz.prog 15 #[.slice a n c] w fun e w' => GetR w (getW (sgC) l) (Va sgV) (.agg (sgV ((0, dz, dz), dz)).toArray) e w' := by
  refine calls_of (args := [.slice a n c]) ([]) ([]) ([factB (.slice a n c) l]) Tryz.func15 rfl rfl (okW_facts (fun f hf => by obtain rfl := List.mem_singleton.1 hf; exact ⟨hu, factB_lt hu⟩)) ?_
  rcases hG : getW (sgC) l with _ | x
  ·
    refine J_seq ?_
    refine J_region ?_
    refine L_alloc rfl rfl rfl rfl z49m (fun b0 => ?_)
    refine L_v rfl rfl rfl (V_assign rfl rfl) ?_
    refine L_nil ?_
    change J _ _ _ _
    refine J_seq ?_
    refine J_region ?_
    refine L_v rfl rfl rfl (V_move rfl rfl) ?_
    refine L_call rfl rfl rfl rfl tx47m (fun w1 hw => (gotsigned_w 48 tx48m a n c l (fun rb ib => (fun W a9 n9 c9 l9 h1 h2 h3 h4 h5 h6 => in_signed rb ib (.slice a n c) l W a9 n9 c9 l9 h1 h2 h3 h4 h5 h6)) w1 (fB hw 0 rfl) hby hcn hl).mono ?_)
    rw [hG]
    rintro e w' ⟨hfr, rfl⟩
    refine ⟨_, _, _, rfl, hw.fr0 hfr, rfl, ?_⟩
    refine L_v rfl rfl rfl (V_extract rfl rfl rfl) ?_
    refine L_v rfl rfl rfl (V_extract rfl rfl rfl) ?_
    refine L_storeW 0 rfl rfl rfl rfl rfl rfl (szd sz49m (by kernel_rfl)) (all_one (by kernel_rfl)) (by kernel_rfl) ?_
    refine L_v rfl rfl rfl (V_assign rfl rfl) ?_
    refine L_nil ?_
    change J _ _ _ _
    refine J_ret ?_
    change Kret _ _ _ Exit.ret _
    refine ret2 rfl rfl (RV_c 0 rfl rfl Tryz.underlying49 rfl (szd sz49m (by kernel_rfl))) (RV_t rfl) ?_
    exact fun w' h => ⟨h.fr, rfl⟩
  ·
    refine J_seq ?_
    refine J_region ?_
    refine L_alloc rfl rfl rfl rfl z49m (fun b0 => ?_)
    refine L_v rfl rfl rfl (V_assign rfl rfl) ?_
    refine L_nil ?_
    change J _ _ _ _
    refine J_seq ?_
    refine J_region ?_
    refine L_v rfl rfl rfl (V_move rfl rfl) ?_
    refine L_call rfl rfl rfl rfl tx47m (fun w1 hw => (gotsigned_w 48 tx48m a n c l (fun rb ib => (fun W a9 n9 c9 l9 h1 h2 h3 h4 h5 h6 => in_signed rb ib (.slice a n c) l W a9 n9 c9 l9 h1 h2 h3 h4 h5 h6)) w1 (fB hw 0 rfl) hby hcn hl).mono ?_)
    rw [hG]
    rintro e w' ⟨hfr, v, fs9, rfl, hV, hf9⟩
    have hnw9 : ∀ f ∈ fs9, ∀ k, f.fp k → w.heap.size ≤ k := fun f hf k hk => Nat.le_trans hw.fr.size ((hf9 f hf).2 k hk).1
    obtain ⟨rfl, rfl⟩ := hV
    refine ⟨_, _, _, rfl, OkW.fr0F hw hfr hf9, rfl, ?_⟩
    refine L_v rfl rfl rfl (V_extract rfl rfl rfl) ?_
    refine L_v rfl rfl rfl (V_extract rfl rfl rfl) ?_
    refine L_storeW 0 rfl rfl rfl rfl rfl rfl (szd sz49m (by kernel_rfl)) (all_one (by kernel_rfl)) (by kernel_rfl) ?_
    refine L_v rfl rfl rfl (V_assign rfl rfl) ?_
    refine L_nil ?_
    change J _ _ _ _
    refine J_ret ?_
    change Kret _ _ _ Exit.ret _
    refine ret2 rfl rfl (RV_c 0 rfl rfl Tryz.underlying49 rfl (szd sz49m (by kernel_rfl))) (RV_t rfl) ?_
    exact fun w' h => ⟨h.fr, _, _, rfl, ⟨rfl, rfl⟩, inFacts h (fun f hf => List.mem_cons_of_mem _ hf) hnw9⟩

theorem gcommand_no (rb ib br bi bx : Nat) (u0 : Value) (l0 : List Int) (F : FuncId) (htx : Txt Tryz.prog F) (hone : Rds F #[.pointer (some ⟨ib, 0, none⟩)] (cmdC).rn (Va cmdV) rb ib u0 l0) (w : World) (a : Option Addr) (n c : Nat) (l : List Int) (hb : w.heap[rb]? = some (row 139 [.slice a n c])) (hx : w.heap[bx]? = some (row 27 (cmdV (0, 0, 0, ⟨#[]⟩, ⟨#[]⟩, 0, dz)))) (hne : rb ≠ bx) (hFS : ∀ f ∈ [factB u0 l0, factO ib (inO rb), factO br (row 71 [.func (.func F) #[] #[]]), factO bi (row 73 [.pointer (some ⟨ib, 0, none⟩)])], f.p w ∧ ∀ k, f.fp k → k < w.heap.size ∧ k ≠ rb ∧ k ≠ bx) (hD : ∀ W, SlB W u0 l0 → SlB W (.slice a n c) l) (hby : Byt l) (hcn : n ≤ c) (hl : l.length ≤ 1099511627776) (hG : (cmdC).rn l = none) :
    Calls Tryz.prog 59 #[.pointer (some ⟨br, 0, none⟩), .pointer (some ⟨bi, 0, none⟩), .pointer (some ⟨bx, 0, none⟩)] w fun e w' => GotP (.tuple #[]) (fun k => .panicked [stp 157 k]) w rb bx 27 u0 l0 (none) (Va cmdV) e w' := by
  refine calls_of_p (args := [.pointer (some ⟨br, 0, none⟩), .pointer (some ⟨bi, 0, none⟩), .pointer (some ⟨bx, 0, none⟩)]) ([rb]) ([rdM rb a n c]) ([factB u0 l0, factO ib (inO rb), factO br (row 71 [.func (.func F) #[] #[]]), factO bi (row 73 [.pointer (some ⟨ib, 0, none⟩)])]) Tryz.func59 rfl rfl (okM1' hb hFS) ?_
  refine J_regionP ?_
  refine LP_one ?_
  refine L_v rfl rfl rfl (V_load rfl rfl Tryz.underlying71 rfl (fun w hw => cell_of (hw.facts _ (List.mem_cons_of_mem _ (List.mem_cons_of_mem _ (List.mem_cons_self ..)))).1 rfl)) ?_
  refine L_nil ?_
  refine LP_one ?_
  refine L_v rfl rfl rfl (V_load rfl rfl Tryz.underlying73 rfl (fun w hw => cell_of (hw.facts _ (List.mem_cons_of_mem _ (List.mem_cons_of_mem _ (List.mem_cons_of_mem _ (List.mem_cons_self ..))))).1 rfl)) ?_
  refine L_nil ?_
  refine LP_in 0 rfl rfl rfl rfl rfl rfl htx rfl (fun w1 hw => hone w1 _ _ _ _ (hw.at (i := 0) rfl) (fxIn hw rfl) hD hby hcn hl) (fun hk => KretP_panic rfl (fun w' h => ⟨h.fr, rfl⟩)) (fun p1 l1 v1 fs1 a1 n1 c1 hr1 hV1 hc1 hD1 hnw1 => ?_)
  rw [hG] at hr1
  cases hr1

theorem gcommand_yes (rb ib br bi bx : Nat) (u0 : Value) (l0 : List Int) (F : FuncId) (htx : Txt Tryz.prog F) (hone : Rds F #[.pointer (some ⟨ib, 0, none⟩)] (cmdC).rn (Va cmdV) rb ib u0 l0) (x0 : _) (lx : List Int) (w : World) (a : Option Addr) (n c : Nat) (l : List Int) (hb : w.heap[rb]? = some (row 139 [.slice a n c])) (hx : w.heap[bx]? = some (row 27 (cmdV (0, 0, 0, ⟨#[]⟩, ⟨#[]⟩, 0, dz)))) (hne : rb ≠ bx) (hFS : ∀ f ∈ [factB u0 l0, factO ib (inO rb), factO br (row 71 [.func (.func F) #[] #[]]), factO bi (row 73 [.pointer (some ⟨ib, 0, none⟩)])], f.p w ∧ ∀ k, f.fp k → k < w.heap.size ∧ k ≠ rb ∧ k ≠ bx) (hD : ∀ W, SlB W u0 l0 → SlB W (.slice a n c) l) (hby : Byt l) (hcn : n ≤ c) (hl : l.length ≤ 1099511627776) (hG : (cmdC).rn l = some (x0, lx)) :
    Calls Tryz.prog 59 #[.pointer (some ⟨br, 0, none⟩), .pointer (some ⟨bi, 0, none⟩), .pointer (some ⟨bx, 0, none⟩)] w fun e w' => GotP (.tuple #[]) (fun k => .panicked [stp 157 k]) w rb bx 27 u0 l0 (some (x0, lx)) (Va cmdV) e w' := by
  refine calls_of_p (args := [.pointer (some ⟨br, 0, none⟩), .pointer (some ⟨bi, 0, none⟩), .pointer (some ⟨bx, 0, none⟩)]) ([rb, bx]) ([rdM rb a n c, (bx, row 27 (cmdV (0, 0, 0, ⟨#[]⟩, ⟨#[]⟩, 0, dz)))]) ([factB u0 l0, factO ib (inO rb), factO br (row 71 [.func (.func F) #[] #[]]), factO bi (row 73 [.pointer (some ⟨ib, 0, none⟩)])]) Tryz.func59 rfl rfl (okM2 hb hx hne hFS) ?_
  refine J_regionP ?_
  refine LP_one ?_
  refine L_v rfl rfl rfl (V_load rfl rfl Tryz.underlying71 rfl (fun w hw => cell_of (hw.facts _ (List.mem_cons_of_mem _ (List.mem_cons_of_mem _ (List.mem_cons_self ..)))).1 rfl)) ?_
  refine L_nil ?_
  refine LP_one ?_
  refine L_v rfl rfl rfl (V_load rfl rfl Tryz.underlying73 rfl (fun w hw => cell_of (hw.facts _ (List.mem_cons_of_mem _ (List.mem_cons_of_mem _ (List.mem_cons_of_mem _ (List.mem_cons_self ..))))).1 rfl)) ?_
  refine L_nil ?_
  refine LP_in 0 rfl rfl rfl rfl rfl rfl htx rfl (fun w1 hw => hone w1 _ _ _ _ (hw.at (i := 0) rfl) (fxIn hw rfl) hD hby hcn hl) (fun hk => (by rw [hG] at hk; cases hk)) (fun p1 l1 v1 fs1 a1 n1 c1 hr1 hV1 hc1 hD1 hnw1 => ?_)
  rw [hG] at hr1
  simp only [Option.some.injEq, Prod.mk.injEq] at hr1
  obtain ⟨rfl, rfl⟩ := hr1
  obtain ⟨rfl, rfl⟩ := hV1
  refine LP_one ?_
  refine L_storeW 1 rfl rfl rfl rfl rfl rfl (szd sz27m (by kernel_rfl)) (all_one (by kernel_rfl)) (by kernel_rfl) ?_
  refine L_nil ?_
  refine LP_nil ?_
  change KretP _ _ _ Exit.normal _
  refine KretP_normal ?_
  refine KretP_plain ?_
  refine ret0 rfl rfl  ?_
  exact fun w' h => ⟨h.fr, _, _, a1, n1, c1, rfl, ⟨rfl, rfl⟩, inFacts h (fun f hf => List.mem_cons_of_mem _ (List.mem_cons_of_mem _ (List.mem_cons_of_mem _ (List.mem_cons_of_mem _ hf)))) hnw1, h.at (i := 0) rfl, hc1, hD1, h.at (i := 1) rfl⟩

theorem gcommand_w (rb ib br bi bx : Nat) (u0 : Value) (l0 : List Int) (F : FuncId) (htx : Txt Tryz.prog F) (hone : Rds F #[.pointer (some ⟨ib, 0, none⟩)] (cmdC).rn (Va cmdV) rb ib u0 l0) (w : World) (a : Option Addr) (n c : Nat) (l : List Int) (hb : w.heap[rb]? = some (row 139 [.slice a n c])) (hx : w.heap[bx]? = some (row 27 (cmdV (0, 0, 0, ⟨#[]⟩, ⟨#[]⟩, 0, dz)))) (hne : rb ≠ bx) (hFS : ∀ f ∈ [factB u0 l0, factO ib (inO rb), factO br (row 71 [.func (.func F) #[] #[]]), factO bi (row 73 [.pointer (some ⟨ib, 0, none⟩)])], f.p w ∧ ∀ k, f.fp k → k < w.heap.size ∧ k ≠ rb ∧ k ≠ bx) (hD : ∀ W, SlB W u0 l0 → SlB W (.slice a n c) l) (hby : Byt l) (hcn : n ≤ c) (hl : l.length ≤ 1099511627776) :
    Calls Tryz.prog 59 #[.pointer (some ⟨br, 0, none⟩), .pointer (some ⟨bi, 0, none⟩), .pointer (some ⟨bx, 0, none⟩)] w (GotP (.tuple #[]) (fun k => .panicked [stp 157 k]) w rb bx 27 u0 l0 ((cmdC).rn l) (Va cmdV)) := by
  cases hG : (cmdC).rn l with
  | none => exact gcommand_no rb ib br bi bx u0 l0 F htx hone w a n c l hb hx hne hFS hD hby hcn hl hG
  | some p => exact gcommand_yes rb ib br bi bx u0 l0 F htx hone p.1 p.2 w a n c l hb hx hne hFS hD hby hcn hl hG

theorem gotcommand_w (F : FuncId) (htx : Txt Tryz.prog F) (a : Option Addr) (n c : Nat) (l : List Int) (hone : ∀ rb ib, Rds F #[.pointer (some ⟨ib, 0, none⟩)] (cmdC).rn (Va cmdV) rb ib (.slice a n c) l) (w : World) (hu : SlB w (.slice a n c) l) (hby : Byt l) (hcn : n ≤ c) (hl : l.length ≤ 1099511627776) :
    Calls Tryz.prog 27 #[.slice a n c, .func (.func F) #[] #[]] w fun e w' => GetR w (getW (cmdC) l) (Va cmdV) (.agg (cmdV (0, 0, 0, ⟨#[]⟩, ⟨#[]⟩, 0, dz)).toArray) e w' := by
  refine calls_of (args := [.slice a n c, .func (.func F) #[] #[]]) ([]) ([]) ([factB (.slice a n c) l]) Tryz.func27 rfl rfl (okW_facts (fun f hf => by obtain rfl := List.mem_singleton.1 hf; exact ⟨hu, factB_lt hu⟩)) ?_
  rcases hG : (cmdC).rn l with _ | ⟨x, l1⟩
  ·
    refine J_seq ?_
    refine J_region ?_
    refine L_box rfl rfl rfl rfl rfl (fun b0 => ?_)
    refine L_alloc rfl rfl rfl rfl z27m (fun b1 => ?_)
    refine L_v rfl rfl rfl (V_assign rfl rfl) ?_
    refine L_nil ?_
    change J _ _ _ _
    refine J_seq ?_
    refine J_region ?_
    refine L_alloc rfl rfl rfl rfl z27m (fun b2 => ?_)
    refine L_nil ?_
    change J _ _ _ _
    refine J_seq ?_
    refine J_region ?_
    refine L_v rfl rfl rfl (V_move rfl rfl) ?_
    refine L_call rfl rfl rfl rfl tx58m (fun w1 hw => (new_w a n c w1).mono ?_)
    rintro e w' ⟨b3, rfl, hfr, hsz, hb3⟩
    refine ⟨_, _, _, rfl, hw.add hfr hb3 hsz, rfl, ?_⟩
    refine L_v rfl rfl rfl (V_build (vs := [(0, .pointer (some ⟨b3, 0, none⟩))]) rfl rfl (bdIn b3)) ?_
    refine L_box rfl rfl rfl rfl rfl (fun b4 => ?_)
    refine L_alloc rfl rfl rfl rfl z73m (fun b5 => ?_)
    refine L_store1 5 rfl rfl rfl rfl rfl rfl rfl sz73m (by first | exact Nat.zero_lt_succ _ | (simp only [dg_length, List.length_append, List.length_take, List.length_drop, zd_length]; omega) | omega) (by first | rfl | exact dg_set _ _ _) ?_
    refine L_nil ?_
    change J _ _ _ _
    refine J_seq ?_
    refine J_region ?_
    refine L_v rfl rfl rfl (V_makeFunc rfl rfl rfl) ?_
    refine L_call rfl rfl rfl rfl tx32m (fun w1 hw => (tryIn_w 27 (Va cmdV) 59 #[.pointer (some ⟨b0, 0, none⟩), .pointer (some ⟨b5, 0, none⟩), .pointer (some ⟨b1, 0, none⟩)] w1 b3 b1 a n c (.slice a n c) l (cmdV (0, 0, 0, ⟨#[]⟩, ⟨#[]⟩, 0, dz)) [factB (.slice a n c) l, factO b4 (inO b3), factO b0 (row 71 [.func (.func F) #[] #[]]), factO b5 (row 73 [.pointer (some ⟨b4, 0, none⟩)])] ((cmdC).rn l) tx59m (hw.at (i := 3) rfl) (hw.at (i := 1) rfl) (fx4 hw).1 (fx4 hw).2 (fun w2 h1 h2 h3 => gcommand_w b3 b4 b0 b5 b1 (.slice a n c) l F htx (hone b3 b4) w2 a n c l h1 h2 (fx4 hw).1 h3 (fun W h => h) hby hcn hl)).mono ?_)
    rw [hG]
    rintro e w' ⟨hfr, rfl⟩
    refine ⟨_, [(b1, row 27 (cmdV (0, 0, 0, ⟨#[]⟩, ⟨#[]⟩, 0, dz))), (b2, row 27 (cmdV (0, 0, 0, ⟨#[]⟩, ⟨#[]⟩, 0, dz)))], [factB (.slice a n c) l], rfl, dropGot hw hfr, rfl, ?_⟩
    refine L_v rfl rfl rfl (V_assign rfl rfl) ?_
    refine L_nil ?_
    change J _ _ _ _
    refine J_seq ?_
    refine J_seq ?_
    refine J_region ?_
    refine L_v rfl rfl rfl (V_move rfl rfl) ?_
    refine L_v rfl rfl rfl (V_neq rfl rfl rfl (by first | exact decide_eq_true (by omega) | exact decide_eq_false (by omega) | rfl)) ?_
    refine L_v rfl rfl rfl (V_move rfl rfl) ?_
    refine L_skip rfl rfl rfl rfl rfl rfl rfl ?_
    refine L_skip rfl rfl rfl rfl rfl rfl rfl ?_
    refine L_skip rfl rfl rfl rfl rfl rfl rfl ?_
    refine L_skip rfl rfl rfl rfl rfl rfl rfl ?_
    refine L_skip rfl rfl rfl rfl rfl rfl rfl ?_
    refine L_skip rfl rfl rfl rfl rfl rfl rfl ?_
    first | refine L_v rfl rfl rfl (V_pickT rfl rfl rfl) ?_ | refine L_v rfl rfl rfl (V_pickF rfl rfl rfl) ?_
    refine L_nil ?_
    change J _ _ _ _
    refine J_true rfl ?_
    refine J_seq ?_
    refine J_region ?_
    refine L_v rfl rfl rfl (V_loadW 1 rfl rfl rfl Tryz.underlying27 rfl (szd sz27m (by kernel_rfl))) ?_
    refine L_storeW 0 rfl rfl rfl rfl rfl rfl (szd sz27m (by kernel_rfl)) (all_one (by kernel_rfl)) (by kernel_rfl) ?_
    refine L_v rfl rfl rfl (V_assign rfl rfl) ?_
    refine L_nil ?_
    change J _ _ _ _
    refine J_ret ?_
    change Kret _ _ _ Exit.ret _
    refine ret2 rfl rfl (RV_c 0 rfl rfl Tryz.underlying27 rfl (szd sz27m (by kernel_rfl))) (RV_t rfl) ?_
    exact fun w' h => GetR.no (getW_1 hG) h.fr
  ·
    by_cases hl1 : l1 = []
    ·
      skip
      refine J_seq ?_
      refine J_region ?_
      refine L_box rfl rfl rfl rfl rfl (fun b0 => ?_)
      refine L_alloc rfl rfl rfl rfl z27m (fun b1 => ?_)
      refine L_v rfl rfl rfl (V_assign rfl rfl) ?_
      refine L_nil ?_
      change J _ _ _ _
      refine J_seq ?_
      refine J_region ?_
      refine L_alloc rfl rfl rfl rfl z27m (fun b2 => ?_)
      refine L_nil ?_
      change J _ _ _ _
      refine J_seq ?_
      refine J_region ?_
      refine L_v rfl rfl rfl (V_move rfl rfl) ?_
      refine L_call rfl rfl rfl rfl tx58m (fun w1 hw => (new_w a n c w1).mono ?_)
      rintro e w' ⟨b3, rfl, hfr, hsz, hb3⟩
      refine ⟨_, _, _, rfl, hw.add hfr hb3 hsz, rfl, ?_⟩
      refine L_v rfl rfl rfl (V_build (vs := [(0, .pointer (some ⟨b3, 0, none⟩))]) rfl rfl (bdIn b3)) ?_
      refine L_box rfl rfl rfl rfl rfl (fun b4 => ?_)
      refine L_alloc rfl rfl rfl rfl z73m (fun b5 => ?_)
      refine L_store1 5 rfl rfl rfl rfl rfl rfl rfl sz73m (by first | exact Nat.zero_lt_succ _ | (simp only [dg_length, List.length_append, List.length_take, List.length_drop, zd_length]; omega) | omega) (by first | rfl | exact dg_set _ _ _) ?_
      refine L_nil ?_
      change J _ _ _ _
      refine J_seq ?_
      refine J_region ?_
      refine L_v rfl rfl rfl (V_makeFunc rfl rfl rfl) ?_
      refine L_call rfl rfl rfl rfl tx32m (fun w1 hw => (tryIn_w 27 (Va cmdV) 59 #[.pointer (some ⟨b0, 0, none⟩), .pointer (some ⟨b5, 0, none⟩), .pointer (some ⟨b1, 0, none⟩)] w1 b3 b1 a n c (.slice a n c) l (cmdV (0, 0, 0, ⟨#[]⟩, ⟨#[]⟩, 0, dz)) [factB (.slice a n c) l, factO b4 (inO b3), factO b0 (row 71 [.func (.func F) #[] #[]]), factO b5 (row 73 [.pointer (some ⟨b4, 0, none⟩)])] ((cmdC).rn l) tx59m (hw.at (i := 3) rfl) (hw.at (i := 1) rfl) (fx4 hw).1 (fx4 hw).2 (fun w2 h1 h2 h3 => gcommand_w b3 b4 b0 b5 b1 (.slice a n c) l F htx (hone b3 b4) w2 a n c l h1 h2 (fx4 hw).1 h3 (fun W h => h) hby hcn hl)).mono ?_)
      rw [hG]
      rintro e w' ⟨hfr, vs, fs9, a9, n9, c9, rfl, hV, hf9, hb9, hnc9, hD9, hx9⟩
      have hz9 := (hD9 w1 (fB hw 0 rfl)).size
      have hz8 : n9 = 0 := by rw [← hz9, hl1]; rfl
      have hnw9 : ∀ f ∈ fs9, ∀ k, f.fp k → w.heap.size ≤ k := fun f hf k hk => Nat.le_trans hw.fr.size ((hf9 f hf).2 k hk).1
      obtain ⟨e9, rfl⟩ := hV
      obtain rfl : vs = cmdV x := agg_inj e9
      refine ⟨_, _, _, rfl, OkW.set2 hw (i := 3) (j := 1) rfl rfl (by decide) hfr hb9 hx9 hf9, rfl, ?_⟩
      refine L_v rfl rfl rfl (V_assign rfl rfl) ?_
      refine L_nil ?_
      change J _ _ _ _
      refine J_seq ?_
      refine J_seq ?_
      refine J_region ?_
      refine L_v rfl rfl rfl (V_move rfl rfl) ?_
      refine L_v rfl rfl rfl (V_neq rfl rfl rfl (by first | exact decide_eq_true (by omega) | exact decide_eq_false (by omega) | rfl)) ?_
      refine L_v rfl rfl rfl (V_move rfl rfl) ?_
      refine L_wv rfl rfl rfl rfl rfl rfl (V_load1 5 rfl rfl rfl Tryz.underlying73 rfl (by first | rfl | exact dg_get (by omega) (by omega))) ?_
      refine L_wv rfl rfl rfl rfl rfl rfl (V_nilCheck rfl rfl) ?_
      refine L_wv rfl rfl rfl rfl rfl rfl (V_fieldAddr rfl rfl Tryz.underlying113 rfl sz110m rfl) ?_
      refine L_wv rfl rfl rfl rfl rfl rfl (V_load1 4 rfl rfl rfl Tryz.underlying110 rfl rfl) ?_
      refine L_wcallV rfl rfl rfl rfl rfl rfl rfl rfl rfl tx60m (fun w1 hw => left_w b3 a9 n9 c9 w1 (hw.at (i := 3) rfl)) ?_
      refine L_wv rfl rfl rfl rfl rfl rfl (V_gtr rfl rfl rfl (by first | exact decide_eq_true (by omega) | exact decide_eq_false (by omega) | rfl)) ?_
      first | refine L_v rfl rfl rfl (V_pickT rfl rfl rfl) ?_ | refine L_v rfl rfl rfl (V_pickF rfl rfl rfl) ?_
      refine L_nil ?_
      change J _ _ _ _
      skip
      refine J_false rfl ?_
      refine J_skip ?_
      change J _ _ _ _
      refine J_seq ?_
      refine J_region ?_
      refine L_v rfl rfl rfl (V_loadW 1 rfl rfl rfl Tryz.underlying27 rfl (szd sz27m (by kernel_rfl))) ?_
      refine L_storeW 1 rfl rfl rfl rfl rfl rfl (szd sz27m (by kernel_rfl)) (all_one (by kernel_rfl)) (by kernel_rfl) ?_
      refine L_v rfl rfl rfl (V_assign rfl rfl) ?_
      refine L_nil ?_
      change J _ _ _ _
      refine J_ret ?_
      change Kret _ _ _ Exit.ret _
      refine ret2 rfl rfl (RV_c 1 rfl rfl Tryz.underlying27 rfl (szd sz27m (by kernel_rfl))) (RV_t rfl) ?_
      exact fun w' h => GetR.yes (getW_3 (by rw [hG, hl1])) h.fr ⟨rfl, rfl⟩ (inFacts h (fun f hf => List.mem_cons_of_mem _ hf) hnw9)
    ·
      refine J_seq ?_
      refine J_region ?_
      refine L_box rfl rfl rfl rfl rfl (fun b0 => ?_)
      refine L_alloc rfl rfl rfl rfl z27m (fun b1 => ?_)
      refine L_v rfl rfl rfl (V_assign rfl rfl) ?_
      refine L_nil ?_
      change J _ _ _ _
      refine J_seq ?_
      refine J_region ?_
      refine L_alloc rfl rfl rfl rfl z27m (fun b2 => ?_)
      refine L_nil ?_
      change J _ _ _ _
      refine J_seq ?_
      refine J_region ?_
      refine L_v rfl rfl rfl (V_move rfl rfl) ?_
      refine L_call rfl rfl rfl rfl tx58m (fun w1 hw => (new_w a n c w1).mono ?_)
      rintro e w' ⟨b3, rfl, hfr, hsz, hb3⟩
      refine ⟨_, _, _, rfl, hw.add hfr hb3 hsz, rfl, ?_⟩
      refine L_v rfl rfl rfl (V_build (vs := [(0, .pointer (some ⟨b3, 0, none⟩))]) rfl rfl (bdIn b3)) ?_
      refine L_box rfl rfl rfl rfl rfl (fun b4 => ?_)
      refine L_alloc rfl rfl rfl rfl z73m (fun b5 => ?_)
      refine L_store1 5 rfl rfl rfl rfl rfl rfl rfl sz73m (by first | exact Nat.zero_lt_succ _ | (simp only [dg_length, List.length_append, List.length_take, List.length_drop, zd_length]; omega) | omega) (by first | rfl | exact dg_set _ _ _) ?_
      refine L_nil ?_
      change J _ _ _ _
      refine J_seq ?_
      refine J_region ?_
      refine L_v rfl rfl rfl (V_makeFunc rfl rfl rfl) ?_
      refine L_call rfl rfl rfl rfl tx32m (fun w1 hw => (tryIn_w 27 (Va cmdV) 59 #[.pointer (some ⟨b0, 0, none⟩), .pointer (some ⟨b5, 0, none⟩), .pointer (some ⟨b1, 0, none⟩)] w1 b3 b1 a n c (.slice a n c) l (cmdV (0, 0, 0, ⟨#[]⟩, ⟨#[]⟩, 0, dz)) [factB (.slice a n c) l, factO b4 (inO b3), factO b0 (row 71 [.func (.func F) #[] #[]]), factO b5 (row 73 [.pointer (some ⟨b4, 0, none⟩)])] ((cmdC).rn l) tx59m (hw.at (i := 3) rfl) (hw.at (i := 1) rfl) (fx4 hw).1 (fx4 hw).2 (fun w2 h1 h2 h3 => gcommand_w b3 b4 b0 b5 b1 (.slice a n c) l F htx (hone b3 b4) w2 a n c l h1 h2 (fx4 hw).1 h3 (fun W h => h) hby hcn hl)).mono ?_)
      rw [hG]
      rintro e w' ⟨hfr, vs, fs9, a9, n9, c9, rfl, hV, hf9, hb9, hnc9, hD9, hx9⟩
      have hz9 := (hD9 w1 (fB hw 0 rfl)).size
      have hz8 : 0 < n9 := by rw [← hz9]; exact List.length_pos_iff.2 hl1
      have hnw9 : ∀ f ∈ fs9, ∀ k, f.fp k → w.heap.size ≤ k := fun f hf k hk => Nat.le_trans hw.fr.size ((hf9 f hf).2 k hk).1
      obtain ⟨e9, rfl⟩ := hV
      obtain rfl : vs = cmdV x := agg_inj e9
      refine ⟨_, _, _, rfl, OkW.set2 hw (i := 3) (j := 1) rfl rfl (by decide) hfr hb9 hx9 hf9, rfl, ?_⟩
      refine L_v rfl rfl rfl (V_assign rfl rfl) ?_
      refine L_nil ?_
      change J _ _ _ _
      refine J_seq ?_
      refine J_seq ?_
      refine J_region ?_
      refine L_v rfl rfl rfl (V_move rfl rfl) ?_
      refine L_v rfl rfl rfl (V_neq rfl rfl rfl (by first | exact decide_eq_true (by omega) | exact decide_eq_false (by omega) | rfl)) ?_
      refine L_v rfl rfl rfl (V_move rfl rfl) ?_
      refine L_wv rfl rfl rfl rfl rfl rfl (V_load1 5 rfl rfl rfl Tryz.underlying73 rfl (by first | rfl | exact dg_get (by omega) (by omega))) ?_
      refine L_wv rfl rfl rfl rfl rfl rfl (V_nilCheck rfl rfl) ?_
      refine L_wv rfl rfl rfl rfl rfl rfl (V_fieldAddr rfl rfl Tryz.underlying113 rfl sz110m rfl) ?_
      refine L_wv rfl rfl rfl rfl rfl rfl (V_load1 4 rfl rfl rfl Tryz.underlying110 rfl rfl) ?_
      refine L_wcallV rfl rfl rfl rfl rfl rfl rfl rfl rfl tx60m (fun w1 hw => left_w b3 a9 n9 c9 w1 (hw.at (i := 3) rfl)) ?_
      refine L_wv rfl rfl rfl rfl rfl rfl (V_gtr rfl rfl rfl (by first | exact decide_eq_true (by omega) | exact decide_eq_false (by omega) | rfl)) ?_
      first | refine L_v rfl rfl rfl (V_pickT rfl rfl rfl) ?_ | refine L_v rfl rfl rfl (V_pickF rfl rfl rfl) ?_
      refine L_nil ?_
      change J _ _ _ _
      refine J_true rfl ?_
      refine J_seq ?_
      refine J_region ?_
      refine L_v rfl rfl rfl (V_loadW 2 rfl rfl rfl Tryz.underlying27 rfl (szd sz27m (by kernel_rfl))) ?_
      refine L_storeW 1 rfl rfl rfl rfl rfl rfl (szd sz27m (by kernel_rfl)) (all_one (by kernel_rfl)) (by kernel_rfl) ?_
      refine L_v rfl rfl rfl (V_assign rfl rfl) ?_
      refine L_nil ?_
      change J _ _ _ _
      refine J_ret ?_
      change Kret _ _ _ Exit.ret _
      refine ret2 rfl rfl (RV_c 1 rfl rfl Tryz.underlying27 rfl (szd sz27m (by kernel_rfl))) (RV_t rfl) ?_
      exact fun w' h => GetR.no (getW_2 hG hl1) h.fr

theorem getcommand_w (a : Option Addr) (n c : Nat) (l : List Int) (w : World) (hu : SlB w (.slice a n c) l) (hby : Byt l) (hcn : n ≤ c) (hl : l.length ≤ 1099511627776) :
    Calls Tryz.prog 4 #[.slice a n c] w fun e w' => GetR w (getW (cmdC) l) (Va cmdV) (.agg (cmdV (0, 0, 0, ⟨#[]⟩, ⟨#[]⟩, 0, dz)).toArray) e w' := by
  refine calls_of (args := [.slice a n c]) ([]) ([]) ([factB (.slice a n c) l]) Tryz.func4 rfl rfl (okW_facts (fun f hf => by obtain rfl := List.mem_singleton.1 hf; exact ⟨hu, factB_lt hu⟩)) ?_
  rcases hG : getW (cmdC) l with _ | x
  ·
    refine J_seq ?_
    refine J_region ?_
    refine L_alloc rfl rfl rfl rfl z27m (fun b0 => ?_)
    refine L_v rfl rfl rfl (V_assign rfl rfl) ?_
    refine L_nil ?_
    change J _ _ _ _
    refine J_seq ?_
    refine J_region ?_
    refine L_v rfl rfl rfl (V_move rfl rfl) ?_
    refine L_call rfl rfl rfl rfl tx27m (fun w1 hw => (gotcommand_w 28 tx28m a n c l (fun rb ib => (fun W a9 n9 c9 l9 h1 h2 h3 h4 h5 h6 => in_command rb ib (.slice a n c) l W a9 n9 c9 l9 h1 h2 h3 h4 h5 h6)) w1 (fB hw 0 rfl) hby hcn hl).mono ?_)
    rw [hG]
    rintro e w' ⟨hfr, rfl⟩
    refine ⟨_, _, _, rfl, hw.fr0 hfr, rfl, ?_⟩
    refine L_v rfl rfl rfl (V_extract rfl rfl rfl) ?_
    refine L_v rfl rfl rfl (V_extract rfl rfl rfl) ?_
    refine L_storeW 0 rfl rfl rfl rfl rfl rfl (szd sz27m (by kernel_rfl)) (all_one (by kernel_rfl)) (by kernel_rfl) ?_
    refine L_v rfl rfl rfl (V_assign rfl rfl) ?_
    refine L_nil ?_
    change J _ _ _ _
    refine J_ret ?_
    change Kret _ _ _ Exit.ret _
    refine ret2 rfl rfl (RV_c 0 rfl rfl Tryz.underlying27 rfl (szd sz27m (by kernel_rfl))) (RV_t rfl) ?_
    exact fun w' h => ⟨h.fr, rfl⟩
  ·
    refine J_seq ?_
    refine J_region ?_
    refine L_alloc rfl rfl rfl rfl z27m (fun b0 => ?_)
    refine L_v rfl rfl rfl (V_assign rfl rfl) ?_
    refine L_nil ?_
    change J _ _ _ _
    refine J_seq ?_
    refine J_region ?_
    refine L_v rfl rfl rfl (V_move rfl rfl) ?_
    refine L_call rfl rfl rfl rfl tx27m (fun w1 hw => (gotcommand_w 28 tx28m a n c l (fun rb ib => (fun W a9 n9 c9 l9 h1 h2 h3 h4 h5 h6 => in_command rb ib (.slice a n c) l W a9 n9 c9 l9 h1 h2 h3 h4 h5 h6)) w1 (fB hw 0 rfl) hby hcn hl).mono ?_)
    rw [hG]
    rintro e w' ⟨hfr, v, fs9, rfl, hV, hf9⟩
    have hnw9 : ∀ f ∈ fs9, ∀ k, f.fp k → w.heap.size ≤ k := fun f hf k hk => Nat.le_trans hw.fr.size ((hf9 f hf).2 k hk).1
    obtain ⟨rfl, rfl⟩ := hV
    refine ⟨_, _, _, rfl, OkW.fr0F hw hfr hf9, rfl, ?_⟩
    refine L_v rfl rfl rfl (V_extract rfl rfl rfl) ?_
    refine L_v rfl rfl rfl (V_extract rfl rfl rfl) ?_
    refine L_storeW 0 rfl rfl rfl rfl rfl rfl (szd sz27m (by kernel_rfl)) (all_one (by kernel_rfl)) (by kernel_rfl) ?_
    refine L_v rfl rfl rfl (V_assign rfl rfl) ?_
    refine L_nil ?_
    change J _ _ _ _
    refine J_ret ?_
    change Kret _ _ _ Exit.ret _
    refine ret2 rfl rfl (RV_c 0 rfl rfl Tryz.underlying27 rfl (szd sz27m (by kernel_rfl))) (RV_t rfl) ?_
    exact fun w' h => ⟨h.fr, _, _, rfl, ⟨rfl, rfl⟩, inFacts h (fun f hf => List.mem_cons_of_mem _ hf) hnw9⟩

theorem gentry_no (rb ib br bi bx : Nat) (u0 : Value) (l0 : List Int) (F : FuncId) (htx : Txt Tryz.prog F) (hone : Rds F #[.pointer (some ⟨ib, 0, none⟩)] (enC).rn (Wen) rb ib u0 l0) (w : World) (a : Option Addr) (n c : Nat) (l : List Int) (hb : w.heap[rb]? = some (row 139 [.slice a n c])) (hx : w.heap[bx]? = some (row 38 (enV (0, 0, 0, (0, 0, 0, ⟨#[]⟩, ⟨#[]⟩, 0, dz), ([], [])) (.slice none 0 0) (.slice none 0 0)))) (hne : rb ≠ bx) (hFS : ∀ f ∈ [factB u0 l0, factO ib (inO rb), factO br (row 84 [.func (.func F) #[] #[]]), factO bi (row 73 [.pointer (some ⟨ib, 0, none⟩)])], f.p w ∧ ∀ k, f.fp k → k < w.heap.size ∧ k ≠ rb ∧ k ≠ bx) (hD : ∀ W, SlB W u0 l0 → SlB W (.slice a n c) l) (hby : Byt l) (hcn : n ≤ c) (hl : l.length ≤ 1099511627776) (hG : (enC).rn l = none) :
    Calls Tryz.prog 71 #[.pointer (some ⟨br, 0, none⟩), .pointer (some ⟨bi, 0, none⟩), .pointer (some ⟨bx, 0, none⟩)] w fun e w' => GotP (.tuple #[]) (fun k => .panicked [stp 157 k]) w rb bx 38 u0 l0 (none) (Wen) e w' := by
  refine calls_of_p (args := [.pointer (some ⟨br, 0, none⟩), .pointer (some ⟨bi, 0, none⟩), .pointer (some ⟨bx, 0, none⟩)]) ([rb]) ([rdM rb a n c]) ([factB u0 l0, factO ib (inO rb), factO br (row 84 [.func (.func F) #[] #[]]), factO bi (row 73 [.pointer (some ⟨ib, 0, none⟩)])]) Tryz.func71 rfl rfl (okM1' hb hFS) ?_
  refine J_regionP ?_
  refine LP_one ?_
  refine L_v rfl rfl rfl (V_load rfl rfl Tryz.underlying84 rfl (fun w hw => cell_of (hw.facts _ (List.mem_cons_of_mem _ (List.mem_cons_of_mem _ (List.mem_cons_self ..)))).1 rfl)) ?_
  refine L_nil ?_
  refine LP_one ?_
  refine L_v rfl rfl rfl (V_load rfl rfl Tryz.underlying73 rfl (fun w hw => cell_of (hw.facts _ (List.mem_cons_of_mem _ (List.mem_cons_of_mem _ (List.mem_cons_of_mem _ (List.mem_cons_self ..))))).1 rfl)) ?_
  refine L_nil ?_
  refine LP_in 0 rfl rfl rfl rfl rfl rfl htx rfl (fun w1 hw => hone w1 _ _ _ _ (hw.at (i := 0) rfl) (fxIn hw rfl) hD hby hcn hl) (fun hk => KretP_panic rfl (fun w' h => ⟨h.fr, rfl⟩)) (fun p1 l1 v1 fs1 a1 n1 c1 hr1 hV1 hc1 hD1 hnw1 => ?_)
  rw [hG] at hr1
  cases hr1

theorem gentry_yes (rb ib br bi bx : Nat) (u0 : Value) (l0 : List Int) (F : FuncId) (htx : Txt Tryz.prog F) (hone : Rds F #[.pointer (some ⟨ib, 0, none⟩)] (enC).rn (Wen) rb ib u0 l0) (x0 : _) (lx : List Int) (w : World) (a : Option Addr) (n c : Nat) (l : List Int) (hb : w.heap[rb]? = some (row 139 [.slice a n c])) (hx : w.heap[bx]? = some (row 38 (enV (0, 0, 0, (0, 0, 0, ⟨#[]⟩, ⟨#[]⟩, 0, dz), ([], [])) (.slice none 0 0) (.slice none 0 0)))) (hne : rb ≠ bx) (hFS : ∀ f ∈ [factB u0 l0, factO ib (inO rb), factO br (row 84 [.func (.func F) #[] #[]]), factO bi (row 73 [.pointer (some ⟨ib, 0, none⟩)])], f.p w ∧ ∀ k, f.fp k → k < w.heap.size ∧ k ≠ rb ∧ k ≠ bx) (hD : ∀ W, SlB W u0 l0 → SlB W (.slice a n c) l) (hby : Byt l) (hcn : n ≤ c) (hl : l.length ≤ 1099511627776) (hG : (enC).rn l = some (x0, lx)) :
    Calls Tryz.prog 71 #[.pointer (some ⟨br, 0, none⟩), .pointer (some ⟨bi, 0, none⟩), .pointer (some ⟨bx, 0, none⟩)] w fun e w' => GotP (.tuple #[]) (fun k => .panicked [stp 157 k]) w rb bx 38 u0 l0 (some (x0, lx)) (Wen) e w' := by
  refine calls_of_p (args := [.pointer (some ⟨br, 0, none⟩), .pointer (some ⟨bi, 0, none⟩), .pointer (some ⟨bx, 0, none⟩)]) ([rb, bx]) ([rdM rb a n c, (bx, row 38 (enV (0, 0, 0, (0, 0, 0, ⟨#[]⟩, ⟨#[]⟩, 0, dz), ([], [])) (.slice none 0 0) (.slice none 0 0)))]) ([factB u0 l0, factO ib (inO rb), factO br (row 84 [.func (.func F) #[] #[]]), factO bi (row 73 [.pointer (some ⟨ib, 0, none⟩)])]) Tryz.func71 rfl rfl (okM2 hb hx hne hFS) ?_
  refine J_regionP ?_
  refine LP_one ?_
  refine L_v rfl rfl rfl (V_load rfl rfl Tryz.underlying84 rfl (fun w hw => cell_of (hw.facts _ (List.mem_cons_of_mem _ (List.mem_cons_of_mem _ (List.mem_cons_self ..)))).1 rfl)) ?_
  refine L_nil ?_
  refine LP_one ?_
  refine L_v rfl rfl rfl (V_load rfl rfl Tryz.underlying73 rfl (fun w hw => cell_of (hw.facts _ (List.mem_cons_of_mem _ (List.mem_cons_of_mem _ (List.mem_cons_of_mem _ (List.mem_cons_self ..))))).1 rfl)) ?_
  refine L_nil ?_
  refine LP_in 0 rfl rfl rfl rfl rfl rfl htx rfl (fun w1 hw => hone w1 _ _ _ _ (hw.at (i := 0) rfl) (fxIn hw rfl) hD hby hcn hl) (fun hk => (by rw [hG] at hk; cases hk)) (fun p1 l1 v1 fs1 a1 n1 c1 hr1 hV1 hc1 hD1 hnw1 => ?_)
  rw [hG] at hr1
  simp only [Option.some.injEq, Prod.mk.injEq] at hr1
  obtain ⟨rfl, rfl⟩ := hr1
  obtain ⟨ya1, yc1, ya2, yc2, rfl, rfl⟩ := hV1
  refine LP_one ?_
  refine L_storeW 1 rfl rfl rfl rfl rfl rfl (szd sz38m (by kernel_rfl)) (all_one (by kernel_rfl)) (by kernel_rfl) ?_
  refine L_nil ?_
  refine LP_nil ?_
  change KretP _ _ _ Exit.normal _
  refine KretP_normal ?_
  refine KretP_plain ?_
  refine ret0 rfl rfl  ?_
  exact fun w' h => ⟨h.fr, _, _, a1, n1, c1, rfl, ⟨ya1, yc1, ya2, yc2, rfl, rfl⟩, inFacts h (fun f hf => List.mem_cons_of_mem _ (List.mem_cons_of_mem _ (List.mem_cons_of_mem _ (List.mem_cons_of_mem _ hf)))) hnw1, h.at (i := 0) rfl, hc1, hD1, h.at (i := 1) rfl⟩

theorem gentry_w (rb ib br bi bx : Nat) (u0 : Value) (l0 : List Int) (F : FuncId) (htx : Txt Tryz.prog F) (hone : Rds F #[.pointer (some ⟨ib, 0, none⟩)] (enC).rn (Wen) rb ib u0 l0) (w : World) (a : Option Addr) (n c : Nat) (l : List Int) (hb : w.heap[rb]? = some (row 139 [.slice a n c])) (hx : w.heap[bx]? = some (row 38 (enV (0, 0, 0, (0, 0, 0, ⟨#[]⟩, ⟨#[]⟩, 0, dz), ([], [])) (.slice none 0 0) (.slice none 0 0)))) (hne : rb ≠ bx) (hFS : ∀ f ∈ [factB u0 l0, factO ib (inO rb), factO br (row 84 [.func (.func F) #[] #[]]), factO bi (row 73 [.pointer (some ⟨ib, 0, none⟩)])], f.p w ∧ ∀ k, f.fp k → k < w.heap.size ∧ k ≠ rb ∧ k ≠ bx) (hD : ∀ W, SlB W u0 l0 → SlB W (.slice a n c) l) (hby : Byt l) (hcn : n ≤ c) (hl : l.length ≤ 1099511627776) :
    Calls Tryz.prog 71 #[.pointer (some ⟨br, 0, none⟩), .pointer (some ⟨bi, 0, none⟩), .pointer (some ⟨bx, 0, none⟩)] w (GotP (.tuple #[]) (fun k => .panicked [stp 157 k]) w rb bx 38 u0 l0 ((enC).rn l) (Wen)) := by
  cases hG : (enC).rn l with
  | none => exact gentry_no rb ib br bi bx u0 l0 F htx hone w a n c l hb hx hne hFS hD hby hcn hl hG
  | some p => exact gentry_yes rb ib br bi bx u0 l0 F htx hone p.1 p.2 w a n c l hb hx hne hFS hD hby hcn hl hG

theorem gotentry_w (F : FuncId) (htx : Txt Tryz.prog F) (a : Option Addr) (n c : Nat) (l : List Int) (hone : ∀ rb ib, Rds F #[.pointer (some ⟨ib, 0, none⟩)] (enC).rn (Wen) rb ib (.slice a n c) l) (w : World) (hu : SlB w (.slice a n c) l) (hby : Byt l) (hcn : n ≤ c) (hl : l.length ≤ 1099511627776) :
    Calls Tryz.prog 35 #[.slice a n c, .func (.func F) #[] #[]] w fun e w' => GetR w (getW (enC) l) (Wen) (.agg (enV (0, 0, 0, (0, 0, 0, ⟨#[]⟩, ⟨#[]⟩, 0, dz), ([], [])) (.slice none 0 0) (.slice none 0 0)).toArray) e w' := by
  refine calls_of (args := [.slice a n c, .func (.func F) #[] #[]]) ([]) ([]) ([factB (.slice a n c) l]) Tryz.func35 rfl rfl (okW_facts (fun f hf => by obtain rfl := List.mem_singleton.1 hf; exact ⟨hu, factB_lt hu⟩)) ?_
  rcases hG : (enC).rn l with _ | ⟨x, l1⟩
  ·
    refine J_seq ?_
    refine J_region ?_
    refine L_box rfl rfl rfl rfl rfl (fun b0 => ?_)
    refine L_alloc rfl rfl rfl rfl z38m (fun b1 => ?_)
    refine L_v rfl rfl rfl (V_assign rfl rfl) ?_
    refine L_nil ?_
    change J _ _ _ _
    refine J_seq ?_
    refine J_region ?_
    refine L_alloc rfl rfl rfl rfl z38m (fun b2 => ?_)
    refine L_nil ?_
    change J _ _ _ _
    refine J_seq ?_
    refine J_region ?_
    refine L_v rfl rfl rfl (V_move rfl rfl) ?_
    refine L_call rfl rfl rfl rfl tx58m (fun w1 hw => (new_w a n c w1).mono ?_)
    rintro e w' ⟨b3, rfl, hfr, hsz, hb3⟩
    refine ⟨_, _, _, rfl, hw.add hfr hb3 hsz, rfl, ?_⟩
    refine L_v rfl rfl rfl (V_build (vs := [(0, .pointer (some ⟨b3, 0, none⟩))]) rfl rfl (bdIn b3)) ?_
    refine L_box rfl rfl rfl rfl rfl (fun b4 => ?_)
    refine L_alloc rfl rfl rfl rfl z73m (fun b5 => ?_)
    refine L_store1 5 rfl rfl rfl rfl rfl rfl rfl sz73m (by first | exact Nat.zero_lt_succ _ | (simp only [dg_length, List.length_append, List.length_take, List.length_drop, zd_length]; omega) | omega) (by first | rfl | exact dg_set _ _ _) ?_
    refine L_nil ?_
    change J _ _ _ _
    refine J_seq ?_
    refine J_region ?_
    refine L_v rfl rfl rfl (V_makeFunc rfl rfl rfl) ?_
    refine L_call rfl rfl rfl rfl tx32m (fun w1 hw => (tryIn_w 38 (Wen) 71 #[.pointer (some ⟨b0, 0, none⟩), .pointer (some ⟨b5, 0, none⟩), .pointer (some ⟨b1, 0, none⟩)] w1 b3 b1 a n c (.slice a n c) l (enV (0, 0, 0, (0, 0, 0, ⟨#[]⟩, ⟨#[]⟩, 0, dz), ([], [])) (.slice none 0 0) (.slice none 0 0)) [factB (.slice a n c) l, factO b4 (inO b3), factO b0 (row 84 [.func (.func F) #[] #[]]), factO b5 (row 73 [.pointer (some ⟨b4, 0, none⟩)])] ((enC).rn l) tx71m (hw.at (i := 3) rfl) (hw.at (i := 1) rfl) (fx4 hw).1 (fx4 hw).2 (fun w2 h1 h2 h3 => gentry_w b3 b4 b0 b5 b1 (.slice a n c) l F htx (hone b3 b4) w2 a n c l h1 h2 (fx4 hw).1 h3 (fun W h => h) hby hcn hl)).mono ?_)
    rw [hG]
    rintro e w' ⟨hfr, rfl⟩
    refine ⟨_, [(b1, row 38 (enV (0, 0, 0, (0, 0, 0, ⟨#[]⟩, ⟨#[]⟩, 0, dz), ([], [])) (.slice none 0 0) (.slice none 0 0))), (b2, row 38 (enV (0, 0, 0, (0, 0, 0, ⟨#[]⟩, ⟨#[]⟩, 0, dz), ([], [])) (.slice none 0 0) (.slice none 0 0)))], [factB (.slice a n c) l], rfl, dropGot hw hfr, rfl, ?_⟩
    refine L_v rfl rfl rfl (V_assign rfl rfl) ?_
    refine L_nil ?_
    change J _ _ _ _
    refine J_seq ?_
    refine J_seq ?_
    refine J_region ?_
    refine L_v rfl rfl rfl (V_move rfl rfl) ?_
    refine L_v rfl rfl rfl (V_neq rfl rfl rfl (by first | exact decide_eq_true (by omega) | exact decide_eq_false (by omega) | rfl)) ?_
    refine L_v rfl rfl rfl (V_move rfl rfl) ?_
    refine L_skip rfl rfl rfl rfl rfl rfl rfl ?_
    refine L_skip rfl rfl rfl rfl rfl rfl rfl ?_
    refine L_skip rfl rfl rfl rfl rfl rfl rfl ?_
    refine L_skip rfl rfl rfl rfl rfl rfl rfl ?_
    refine L_skip rfl rfl rfl rfl rfl rfl rfl ?_
    refine L_skip rfl rfl rfl rfl rfl rfl rfl ?_
    first | refine L_v rfl rfl rfl (V_pickT rfl rfl rfl) ?_ | refine L_v rfl rfl rfl (V_pickF rfl rfl rfl) ?_
    refine L_nil ?_
    change J _ _ _ _
    refine J_true rfl ?_
    refine J_seq ?_
    refine J_region ?_
    refine L_v rfl rfl rfl (V_loadW 1 rfl rfl rfl Tryz.underlying38 rfl (szd sz38m (by kernel_rfl))) ?_
    refine L_storeW 0 rfl rfl rfl rfl rfl rfl (szd sz38m (by kernel_rfl)) (all_one (by kernel_rfl)) (by kernel_rfl) ?_
    refine L_v rfl rfl rfl (V_assign rfl rfl) ?_
    refine L_nil ?_
    change J _ _ _ _
    refine J_ret ?_
    change Kret _ _ _ Exit.ret _
    refine ret2 rfl rfl (RV_c 0 rfl rfl Tryz.underlying38 rfl (szd sz38m (by kernel_rfl))) (RV_t rfl) ?_
    exact fun w' h => GetR.no (getW_1 hG) h.fr
  ·
    by_cases hl1 : l1 = []
    ·
      skip
      refine J_seq ?_
      refine J_region ?_
      refine L_box rfl rfl rfl rfl rfl (fun b0 => ?_)
      refine L_alloc rfl rfl rfl rfl z38m (fun b1 => ?_)
      refine L_v rfl rfl rfl (V_assign rfl rfl) ?_
      refine L_nil ?_
      change J _ _ _ _
      refine J_seq ?_
      refine J_region ?_
      refine L_alloc rfl rfl rfl rfl z38m (fun b2 => ?_)
      refine L_nil ?_
      change J _ _ _ _
      refine J_seq ?_
      refine J_region ?_
      refine L_v rfl rfl rfl (V_move rfl rfl) ?_
      refine L_call rfl rfl rfl rfl tx58m (fun w1 hw => (new_w a n c w1).mono ?_)
      rintro e w' ⟨b3, rfl, hfr, hsz, hb3⟩
      refine ⟨_, _, _, rfl, hw.add hfr hb3 hsz, rfl, ?_⟩
      refine L_v rfl rfl rfl (V_build (vs := [(0, .pointer (some ⟨b3, 0, none⟩))]) rfl rfl (bdIn b3)) ?_
      refine L_box rfl rfl rfl rfl rfl (fun b4 => ?_)
      refine L_alloc rfl rfl rfl rfl z73m (fun b5 => ?_)
      refine L_store1 5 rfl rfl rfl rfl rfl rfl rfl sz73m (by first | exact Nat.zero_lt_succ _ | (simp only [dg_length, List.length_append, List.length_take, List.length_drop, zd_length]; omega) | omega) (by first | rfl | exact dg_set _ _ _) ?_
      refine L_nil ?_
      change J _ _ _ _
      refine J_seq ?_
      refine J_region ?_
      refine L_v rfl rfl rfl (V_makeFunc rfl rfl rfl) ?_
      refine L_call rfl rfl rfl rfl tx32m (fun w1 hw => (tryIn_w 38 (Wen) 71 #[.pointer (some ⟨b0, 0, none⟩), .pointer (some ⟨b5, 0, none⟩), .pointer (some ⟨b1, 0, none⟩)] w1 b3 b1 a n c (.slice a n c) l (enV (0, 0, 0, (0, 0, 0, ⟨#[]⟩, ⟨#[]⟩, 0, dz), ([], [])) (.slice none 0 0) (.slice none 0 0)) [factB (.slice a n c) l, factO b4 (inO b3), factO b0 (row 84 [.func (.func F) #[] #[]]), factO b5 (row 73 [.pointer (some ⟨b4, 0, none⟩)])] ((enC).rn l) tx71m (hw.at (i := 3) rfl) (hw.at (i := 1) rfl) (fx4 hw).1 (fx4 hw).2 (fun w2 h1 h2 h3 => gentry_w b3 b4 b0 b5 b1 (.slice a n c) l F htx (hone b3 b4) w2 a n c l h1 h2 (fx4 hw).1 h3 (fun W h => h) hby hcn hl)).mono ?_)
      rw [hG]
      rintro e w' ⟨hfr, vs, fs9, a9, n9, c9, rfl, hV, hf9, hb9, hnc9, hD9, hx9⟩
      have hz9 := (hD9 w1 (fB hw 0 rfl)).size
      have hz8 : n9 = 0 := by rw [← hz9, hl1]; rfl
      have hnw9 : ∀ f ∈ fs9, ∀ k, f.fp k → w.heap.size ≤ k := fun f hf k hk => Nat.le_trans hw.fr.size ((hf9 f hf).2 k hk).1
      obtain ⟨ya1, yc1, ya2, yc2, e9, rfl⟩ := hV
      obtain rfl : vs = enV x (Sl ya1 x.2.2.2.2.1.length yc1) (Sl ya2 x.2.2.2.2.2.length yc2) := agg_inj e9
      refine ⟨_, _, _, rfl, OkW.set2 hw (i := 3) (j := 1) rfl rfl (by decide) hfr hb9 hx9 hf9, rfl, ?_⟩
      refine L_v rfl rfl rfl (V_assign rfl rfl) ?_
      refine L_nil ?_
      change J _ _ _ _
      refine J_seq ?_
      refine J_seq ?_
      refine J_region ?_
      refine L_v rfl rfl rfl (V_move rfl rfl) ?_
      refine L_v rfl rfl rfl (V_neq rfl rfl rfl (by first | exact decide_eq_true (by omega) | exact decide_eq_false (by omega) | rfl)) ?_
      refine L_v rfl rfl rfl (V_move rfl rfl) ?_
      refine L_wv rfl rfl rfl rfl rfl rfl (V_load1 5 rfl rfl rfl Tryz.underlying73 rfl (by first | rfl | exact dg_get (by omega) (by omega))) ?_
      refine L_wv rfl rfl rfl rfl rfl rfl (V_nilCheck rfl rfl) ?_
      refine L_wv rfl rfl rfl rfl rfl rfl (V_fieldAddr rfl rfl Tryz.underlying113 rfl sz110m rfl) ?_
      refine L_wv rfl rfl rfl rfl rfl rfl (V_load1 4 rfl rfl rfl Tryz.underlying110 rfl rfl) ?_
      refine L_wcallV rfl rfl rfl rfl rfl rfl rfl rfl rfl tx60m (fun w1 hw => left_w b3 a9 n9 c9 w1 (hw.at (i := 3) rfl)) ?_
      refine L_wv rfl rfl rfl rfl rfl rfl (V_gtr rfl rfl rfl (by first | exact decide_eq_true (by omega) | exact decide_eq_false (by omega) | rfl)) ?_
      first | refine L_v rfl rfl rfl (V_pickT rfl rfl rfl) ?_ | refine L_v rfl rfl rfl (V_pickF rfl rfl rfl) ?_
      refine L_nil ?_
      change J _ _ _ _
      skip
      refine J_false rfl ?_
      refine J_skip ?_
      change J _ _ _ _
      refine J_seq ?_
      refine J_region ?_
      refine L_v rfl rfl rfl (V_loadW 1 rfl rfl rfl Tryz.underlying38 rfl (szd sz38m (by kernel_rfl))) ?_
      refine L_storeW 1 rfl rfl rfl rfl rfl rfl (szd sz38m (by kernel_rfl)) (all_one (by kernel_rfl)) (by kernel_rfl) ?_
      refine L_v rfl rfl rfl (V_assign rfl rfl) ?_
      refine L_nil ?_
      change J _ _ _ _
      refine J_ret ?_
      change Kret _ _ _ Exit.ret _
      refine ret2 rfl rfl (RV_c 1 rfl rfl Tryz.underlying38 rfl (szd sz38m (by kernel_rfl))) (RV_t rfl) ?_
      exact fun w' h => GetR.yes (getW_3 (by rw [hG, hl1])) h.fr ⟨ya1, yc1, ya2, yc2, rfl, rfl⟩ (inFacts h (fun f hf => List.mem_cons_of_mem _ hf) hnw9)
    ·
      refine J_seq ?_
      refine J_region ?_
      refine L_box rfl rfl rfl rfl rfl (fun b0 => ?_)
      refine L_alloc rfl rfl rfl rfl z38m (fun b1 => ?_)
      refine L_v rfl rfl rfl (V_assign rfl rfl) ?_
      refine L_nil ?_
      change J _ _ _ _
      refine J_seq ?_
      refine J_region ?_
      refine L_alloc rfl rfl rfl rfl z38m (fun b2 => ?_)
      refine L_nil ?_
      change J _ _ _ _
      refine J_seq ?_
      refine J_region ?_
      refine L_v rfl rfl rfl (V_move rfl rfl) ?_
      refine L_call rfl rfl rfl rfl tx58m (fun w1 hw => (new_w a n c w1).mono ?_)
      rintro e w' ⟨b3, rfl, hfr, hsz, hb3⟩
      refine ⟨_, _, _, rfl, hw.add hfr hb3 hsz, rfl, ?_⟩
      refine L_v rfl rfl rfl (V_build (vs := [(0, .pointer (some ⟨b3, 0, none⟩))]) rfl rfl (bdIn b3)) ?_
      refine L_box rfl rfl rfl rfl rfl (fun b4 => ?_)
      refine L_alloc rfl rfl rfl rfl z73m (fun b5 => ?_)
      refine L_store1 5 rfl rfl rfl rfl rfl rfl rfl sz73m (by first | exact Nat.zero_lt_succ _ | (simp only [dg_length, List.length_append, List.length_take, List.length_drop, zd_length]; omega) | omega) (by first | rfl | exact dg_set _ _ _) ?_
      refine L_nil ?_
      change J _ _ _ _
      refine J_seq ?_
      refine J_region ?_
      refine L_v rfl rfl rfl (V_makeFunc rfl rfl rfl) ?_
      refine L_call rfl rfl rfl rfl tx32m (fun w1 hw => (tryIn_w 38 (Wen) 71 #[.pointer (some ⟨b0, 0, none⟩), .pointer (some ⟨b5, 0, none⟩), .pointer (some ⟨b1, 0, none⟩)] w1 b3 b1 a n c (.slice a n c) l (enV (0, 0, 0, (0, 0, 0, ⟨#[]⟩, ⟨#[]⟩, 0, dz), ([], [])) (.slice none 0 0) (.slice none 0 0)) [factB (.slice a n c) l, factO b4 (inO b3), factO b0 (row 84 [.func (.func F) #[] #[]]), factO b5 (row 73 [.pointer (some ⟨b4, 0, none⟩)])] ((enC).rn l) tx71m (hw.at (i := 3) rfl) (hw.at (i := 1) rfl) (fx4 hw).1 (fx4 hw).2 (fun w2 h1 h2 h3 => gentry_w b3 b4 b0 b5 b1 (.slice a n c) l F htx (hone b3 b4) w2 a n c l h1 h2 (fx4 hw).1 h3 (fun W h => h) hby hcn hl)).mono ?_)
      rw [hG]
      rintro e w' ⟨hfr, vs, fs9, a9, n9, c9, rfl, hV, hf9, hb9, hnc9, hD9, hx9⟩
      have hz9 := (hD9 w1 (fB hw 0 rfl)).size
      have hz8 : 0 < n9 := by rw [← hz9]; exact List.length_pos_iff.2 hl1
      have hnw9 : ∀ f ∈ fs9, ∀ k, f.fp k → w.heap.size ≤ k := fun f hf k hk => Nat.le_trans hw.fr.size ((hf9 f hf).2 k hk).1
      obtain ⟨ya1, yc1, ya2, yc2, e9, rfl⟩ := hV
      obtain rfl : vs = enV x (Sl ya1 x.2.2.2.2.1.length yc1) (Sl ya2 x.2.2.2.2.2.length yc2) := agg_inj e9
      refine ⟨_, _, _, rfl, OkW.set2 hw (i := 3) (j := 1) rfl rfl (by decide) hfr hb9 hx9 hf9, rfl, ?_⟩
      refine L_v rfl rfl rfl (V_assign rfl rfl) ?_
      refine L_nil ?_
      change J _ _ _ _
      refine J_seq ?_
      refine J_seq ?_
      refine J_region ?_
      refine L_v rfl rfl rfl (V_move rfl rfl) ?_
      refine L_v rfl rfl rfl (V_neq rfl rfl rfl (by first | exact decide_eq_true (by omega) | exact decide_eq_false (by omega) | rfl)) ?_
      refine L_v rfl rfl rfl (V_move rfl rfl) ?_
      refine L_wv rfl rfl rfl rfl rfl rfl (V_load1 5 rfl rfl rfl Tryz.underlying73 rfl (by first | rfl | exact dg_get (by omega) (by omega))) ?_
      refine L_wv rfl rfl rfl rfl rfl rfl (V_nilCheck rfl rfl) ?_
      refine L_wv rfl rfl rfl rfl rfl rfl (V_fieldAddr rfl rfl Tryz.underlying113 rfl sz110m rfl) ?_
      refine L_wv rfl rfl rfl rfl rfl rfl (V_load1 4 rfl rfl rfl Tryz.underlying110 rfl rfl) ?_
      refine L_wcallV rfl rfl rfl rfl rfl rfl rfl rfl rfl tx60m (fun w1 hw => left_w b3 a9 n9 c9 w1 (hw.at (i := 3) rfl)) ?_
      refine L_wv rfl rfl rfl rfl rfl rfl (V_gtr rfl rfl rfl (by first | exact decide_eq_true (by omega) | exact decide_eq_false (by omega) | rfl)) ?_
      first | refine L_v rfl rfl rfl (V_pickT rfl rfl rfl) ?_ | refine L_v rfl rfl rfl (V_pickF rfl rfl rfl) ?_
      refine L_nil ?_
      change J _ _ _ _
      refine J_true rfl ?_
      refine J_seq ?_
      refine J_region ?_
      refine L_v rfl rfl rfl (V_loadW 2 rfl rfl rfl Tryz.underlying38 rfl (szd sz38m (by kernel_rfl))) ?_
      refine L_storeW 1 rfl rfl rfl rfl rfl rfl (szd sz38m (by kernel_rfl)) (all_one (by kernel_rfl)) (by kernel_rfl) ?_
      refine L_v rfl rfl rfl (V_assign rfl rfl) ?_
      refine L_nil ?_
      change J _ _ _ _
      refine J_ret ?_
      change Kret _ _ _ Exit.ret _
      refine ret2 rfl rfl (RV_c 1 rfl rfl Tryz.underlying38 rfl (szd sz38m (by kernel_rfl))) (RV_t rfl) ?_
      exact fun w' h => GetR.no (getW_2 hG hl1) h.fr

theorem getentry_w (a : Option Addr) (n c : Nat) (l : List Int) (w : World) (hu : SlB w (.slice a n c) l) (hby : Byt l) (hcn : n ≤ c) (hl : l.length ≤ 1099511627776) :
    Calls Tryz.prog 7 #[.slice a n c] w fun e w' => GetR w (getW (enC) l) (Wen) (.agg (enV (0, 0, 0, (0, 0, 0, ⟨#[]⟩, ⟨#[]⟩, 0, dz), ([], [])) (.slice none 0 0) (.slice none 0 0)).toArray) e w' := by
  refine calls_of (args := [.slice a n c]) ([]) ([]) ([factB (.slice a n c) l]) Tryz.func7 rfl rfl (okW_facts (fun f hf => by obtain rfl := List.mem_singleton.1 hf; exact ⟨hu, factB_lt hu⟩)) ?_
  rcases hG : getW (enC) l with _ | x
  ·
    refine J_seq ?_
    refine J_region ?_
    refine L_alloc rfl rfl rfl rfl z38m (fun b0 => ?_)
    refine L_v rfl rfl rfl (V_assign rfl rfl) ?_
    refine L_nil ?_
    change J _ _ _ _
    refine J_seq ?_
    refine J_region ?_
    refine L_v rfl rfl rfl (V_move rfl rfl) ?_
    refine L_call rfl rfl rfl rfl tx35m (fun w1 hw => (gotentry_w 36 tx36m a n c l (fun rb ib => (fun W a9 n9 c9 l9 h1 h2 h3 h4 h5 h6 => in_entry rb ib (.slice a n c) l W a9 n9 c9 l9 h1 h2 h3 h4 h5 h6)) w1 (fB hw 0 rfl) hby hcn hl).mono ?_)
    rw [hG]
    rintro e w' ⟨hfr, rfl⟩
    refine ⟨_, _, _, rfl, hw.fr0 hfr, rfl, ?_⟩
    refine L_v rfl rfl rfl (V_extract rfl rfl rfl) ?_
    refine L_v rfl rfl rfl (V_extract rfl rfl rfl) ?_
    refine L_storeW 0 rfl rfl rfl rfl rfl rfl (szd sz38m (by kernel_rfl)) (all_one (by kernel_rfl)) (by kernel_rfl) ?_
    refine L_v rfl rfl rfl (V_assign rfl rfl) ?_
    refine L_nil ?_
    change J _ _ _ _
    refine J_ret ?_
    change Kret _ _ _ Exit.ret _
    refine ret2 rfl rfl (RV_c 0 rfl rfl Tryz.underlying38 rfl (szd sz38m (by kernel_rfl))) (RV_t rfl) ?_
    exact fun w' h => ⟨h.fr, rfl⟩
  ·
    refine J_seq ?_
    refine J_region ?_
    refine L_alloc rfl rfl rfl rfl z38m (fun b0 => ?_)
    refine L_v rfl rfl rfl (V_assign rfl rfl) ?_
    refine L_nil ?_
    change J _ _ _ _
    refine J_seq ?_
    refine J_region ?_
    refine L_v rfl rfl rfl (V_move rfl rfl) ?_
    refine L_call rfl rfl rfl rfl tx35m (fun w1 hw => (gotentry_w 36 tx36m a n c l (fun rb ib => (fun W a9 n9 c9 l9 h1 h2 h3 h4 h5 h6 => in_entry rb ib (.slice a n c) l W a9 n9 c9 l9 h1 h2 h3 h4 h5 h6)) w1 (fB hw 0 rfl) hby hcn hl).mono ?_)
    rw [hG]
    rintro e w' ⟨hfr, v, fs9, rfl, hV, hf9⟩
    have hnw9 : ∀ f ∈ fs9, ∀ k, f.fp k → w.heap.size ≤ k := fun f hf k hk => Nat.le_trans hw.fr.size ((hf9 f hf).2 k hk).1
    obtain ⟨ya1, yc1, ya2, yc2, rfl, rfl⟩ := hV
    refine ⟨_, _, _, rfl, OkW.fr0F hw hfr hf9, rfl, ?_⟩
    refine L_v rfl rfl rfl (V_extract rfl rfl rfl) ?_
    refine L_v rfl rfl rfl (V_extract rfl rfl rfl) ?_
    refine L_storeW 0 rfl rfl rfl rfl rfl rfl (szd sz38m (by kernel_rfl)) (all_one (by kernel_rfl)) (by kernel_rfl) ?_
    refine L_v rfl rfl rfl (V_assign rfl rfl) ?_
    refine L_nil ?_
    change J _ _ _ _
    refine J_ret ?_
    change Kret _ _ _ Exit.ret _
    refine ret2 rfl rfl (RV_c 0 rfl rfl Tryz.underlying38 rfl (szd sz38m (by kernel_rfl))) (RV_t rfl) ?_
    exact fun w' h => ⟨h.fr, _, _, rfl, ⟨ya1, yc1, ya2, yc2, rfl, rfl⟩, inFacts h (fun f hf => List.mem_cons_of_mem _ hf) hnw9⟩

end Go.Proofs.YtfgcfjojpakpjaaGreat
