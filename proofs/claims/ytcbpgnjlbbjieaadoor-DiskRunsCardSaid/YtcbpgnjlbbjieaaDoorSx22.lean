/- More rules: texts held against one another by their order; a fact that is made of old ones and of new blocks. -/
import Derived.Test.YtcbpgnjlbbjieaaDoorSx21
import Derived.Test.YtcbpgnjlbbjieaaDoorDiskPure
set_option linter.unusedVariables false
set_option linter.unusedSimpArgs false
namespace Go.Sx
open Go
section
variable {cx : Cx} {o : Oper} {st : St}
theorem run_lssS (P : Program) (t : TypeId) (a b : ByteArray) (w : World) : (binOp .lss t (.string a) (.string b)).run P w = .ok (.bool (ltS a b)) w := by
  have h : ltS a b = Op.bytesLess a.toList b.toList := by rw [Go.Proofs.bytesLess_eq, Lib.toList_data, Lib.toList_data]; rfl
  rw [h]
  rfl
theorem V_lssS {t yt : TypeId} {x y : Operand} {a b : ByteArray} {r : Bool} (ho : o.op = .binOp .lss t x y yt) (hx : ev st.env x = some (.string a)) (hy : ev st.env y = some (.string b)) (hr : ltS a b = r) : V cx o st (.bool r) :=
  ⟨nd ho (fun c h => by cases h), fun a' w h => by
    subst hr
    unfold execOp; rw [ho]
    have hg : (eqGuard .lss t x y (.string a) (.string b)).run cx.P w = .ok () w := rfl
    simp only [h.a.ev hx, h.a.ev hy, Sem.run_bind, hg, Result.andThen_ok, run_lssS, Sem.run_pure]⟩
end
/-- What it looks at is of these facts, or new. -/
def ON (fs : List Fact) (n : Nat) (f : Fact) : Prop := ∀ k, f.fp k → (∃ g ∈ fs, g.fp k) ∨ n ≤ k
theorem ON.self {fs : List Fact} {n : Nat} {f : Fact} (h : f ∈ fs) : ON fs n f := fun k hk => .inl ⟨f, h, hk⟩
theorem ON.new {fs : List Fact} {n : Nat} {f : Fact} (h : ∀ k, f.fp k → n ≤ k) : ON fs n f := fun k hk => .inr (h k hk)
theorem ON.trans {fs gs : List Fact} {n m : Nat} {f : Fact} (h : ON gs m f) (hg : ∀ g ∈ gs, ON fs n g) (hn : n ≤ m) : ON fs n f := fun k hk => by
  rcases h k hk with ⟨g, hg', hk'⟩ | h1
  · exact hg g hg' k hk'
  · exact .inr (Nat.le_trans hn h1)
def FG (fs : List Fact) (w w' : World) (f : Fact) : Prop := FA w' f ∧ ON fs w.heap.size f
theorem NewF.fg {fs : List Fact} {w w' : World} {f : Fact} (h : NewF w w' f) : FG fs w w' f := ⟨h.fa, .new h.new⟩
theorem OkW.addG {cx : Cx} {m : Mem} {fs fs0 : List Fact} {w w' : World} {f : Fact} (h : OkW cx m fs w) (hs : ∀ g ∈ fs0, g ∈ fs) (hfr : Fr [] w w') (hf : FG fs0 w w' f) : OkW cx m (fs ++ [f]) w' := by
  have h1 := h.fr0 hfr
  refine ⟨h1.mem, h1.dis, h1.may, fun g hg => ?_, h1.fr⟩
  rcases List.mem_append.1 hg with h2 | h2
  · exact h1.facts g h2
  · obtain rfl := List.mem_singleton.1 h2
    refine ⟨hf.1.1, fun k hk => ⟨hf.1.2 k hk, fun hkm => ?_⟩⟩
    rcases hf.2 k hk with ⟨g', hg', hk'⟩ | h3
    · exact ((h.facts g' (hs g' hg')).2 k hk').2 hkm
    · have := h.lt hkm
      omega
/-- Of these blocks others came; a fact of old facts and new blocks. -/
structure UpdG (m : Mem) (fs0 : List Fact) (w w' : World) (l : Mem) (f : Fact) : Prop where
  u : Upd m w w' l []
  g : FG fs0 w w' f
  dis : ∀ k, f.fp k → k ∉ l.map (·.1)
theorem OkW.updG {cx : Cx} {m1 m : Mem} {fs fs0 : List Fact} {w w' : World} {l : Mem} {f : Fact} (h : OkW cx (m1 ++ m) fs w) (hs : ∀ g ∈ fs0, g ∈ fs) (hu : UpdG m fs0 w w' l f) : OkW cx (m1 ++ l) (fs ++ [f]) w' := by
  have h1 := h.upd hu.u
  refine ⟨h1.mem, h1.dis, h1.may, fun g hg => ?_, h1.fr⟩
  rcases List.mem_append.1 hg with h2 | h2
  · exact h1.facts g (List.mem_append_left _ h2)
  · obtain rfl := List.mem_singleton.1 h2
    refine ⟨hu.g.1.1, fun k hk => ⟨hu.g.1.2 k hk, fun hkm => ?_⟩⟩
    rw [List.map_append] at hkm
    rcases List.mem_append.1 hkm with h4 | h4
    · rcases hu.g.2 k hk with ⟨g', hg', hk'⟩ | h3
      · exact ((h.facts g' (hs g' hg')).2 k hk').2 (by rw [List.map_append]; exact List.mem_append_left _ h4)
      · have := h.lt (show k ∈ (m1 ++ m).map (·.1) by rw [List.map_append]; exact List.mem_append_left _ h4)
        omega
    · exact hu.dis k hk h4
theorem FG.of {cx : Cx} {mem : Mem} {fs fs0 : List Fact} {w : World} {f : Fact} (h : OkW cx mem fs w) (hf : f ∈ fs) (hn : ON fs0 cx.w0.heap.size f) : FG fs0 cx.w0 w f :=
  ⟨⟨(h.facts f hf).1, fun k hk => ((h.facts f hf).2 k hk).1⟩, hn⟩
theorem UpdG.of {cx : Cx} {m mem l : Mem} {fs fs0 : List Fact} {w : World} {f : Fact} (h : OkW cx mem fs w) (hm : cx.mods = m.map (·.1)) (hl : Pk l mem) (hf : f ∈ fs) (hn : ON fs0 cx.w0.heap.size f) : UpdG m fs0 cx.w0 w l f :=
  ⟨Upd.of h hm hl (fun g hg => by cases hg) (fun g hg => by cases hg), FG.of h hf hn, fun k hk => ((h.pk hl (fun g hg => hg)).facts f hf).2 k hk |>.2⟩
/-- A row of one's own that is new, as a fact from now on. -/
theorem Upd.fg {fs : List Fact} {w w' : World} {e : TypeId} {q : OwnP} {sz n : Nat} {ks : List Value} (h : Upd [] w w' (pM e q ks) []) (hq : PC sz q n ks) : FG fs w w' (factC sz (.slice (pA q) n (pC q)) n ks) :=
  (hq.newF fun g o ho => h.newL.at_ g o ho).fg
theorem FG.trans {fs gs : List Fact} {w w1 w' : World} {f : Fact} (h : FG gs w1 w' f) (hg : ∀ g ∈ gs, ON fs w.heap.size g) (hn : w.heap.size ≤ w1.heap.size) : FG fs w w' f := ⟨h.1, h.2.trans hg hn⟩
/-! ### Putting in by rising texts -/
theorem ins_no {n : Nm} : ∀ {A : List Nm}, (∀ x ∈ A, ltS n.1 x.1 = false) → insN n A = A ++ [n]
  | [], _ => rfl
  | x :: A, h => by
    unfold insN
    rw [if_neg (by rw [h x (List.mem_cons_self ..)]; decide), ins_no fun y hy => h y (List.mem_cons_of_mem _ hy)]
    rfl
theorem ins_hit {n x : Nm} {B : List Nm} (hx : ltS n.1 x.1 = true) : ∀ {A : List Nm}, (∀ y ∈ A, ltS n.1 y.1 = false) → insN n (A ++ x :: B) = A ++ n :: x :: B
  | [], _ => by
    show insN n (x :: B) = _
    unfold insN
    rw [if_pos hx]
    rfl
  | y :: A, h => by
    show insN n (y :: (A ++ x :: B)) = _
    unfold insN
    rw [if_neg (by rw [h y (List.mem_cons_self ..)]; decide), ins_hit hx fun z hz => h z (List.mem_cons_of_mem _ hz)]
    rfl
theorem del_next {l : List Nm} {i : Nat} (h : i < l.length) (k : ByteArray) : delN (l.take (i + 1)) k = delN (l.take i) k ++ (if (l.getD i (e0, 0)).1 ≠ k then [l.getD i (e0, 0)] else []) := by
  rw [take_s (e0, 0) h]
  unfold delN
  rw [List.filter_append]
  congr 1
  by_cases h1 : (l.getD i (e0, 0)).1 ≠ k
  · rw [if_pos h1, List.filter_cons_of_pos (by simpa using h1)]
    rfl
  · rw [if_neg h1, List.filter_cons_of_neg (by simpa using h1)]
    rfl
end Go.Sx
