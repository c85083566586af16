/- Part 6 of the texts that the law leans on. -/
import Derived.Test.YtfdmjjhgdbpfeaaDoorCBa2
import Derived.Test.YtfdmjjhgdbpfeaaDoorCBa4
import Derived.Test.YtfdmjjhgdbpfeaaDoorCBa5
/- More rules: a range over a function by what a round promises; the blocks of the loop's own function are one fact for the function that is gone through. -/
set_option linter.unusedVariables false
set_option linter.unusedSimpArgs false
namespace Go.Sx
/-- As of now: these blocks may be turned. -/
def cxR (P : Program) (w : World) (m : Mem) : Cx := { P := P, w0 := w, nt := 0, mods := m.map (·.1) }
/-- What a round's facts may be about. -/
def GS (fs gs : List Fact) (m : Mem) : Prop := ∀ f ∈ gs, f ∈ fs ∨ ∀ b, f.fp b → b ∈ m.map (·.1)
/-- Every round goes on, and is as it is wanted. -/
def RoundsT (P : Program) (w0 : World) (mods : List Nat) {Z V : Type} (M : Nat → Z → Mem) (G : Nat → Z → List Fact) (vals : Nat → V → List Value) (Y : Nat → V → Fact) (N : Nat) (D l : Nat) (r : Loop) : Prop :=
  ∀ k z y w, k < N → w0.heap.size ≤ w.heap.size → (∀ b ∈ (M k z ++ tl D l r).map (fun p : Nat × Obj => p.1), w0.heap.size ≤ b ∨ b ∈ mods) → OkW (cxR P w (M k z ++ tl D l r)) (M k z ++ tl D l r) (G k z ++ [Y k y]) w →
    YieldAt (fen none) 0 P l (vals k y).toArray w fun e w' => e = .returned (.bool true) ∧ ∃ z', GS (G k z ++ [Y k y]) (G (k + 1) z') (M k z) ∧ OkW (cxR P w (M k z ++ tl D l r)) (M (k + 1) z' ++ tl D l r) (G (k + 1) z') w'
/-- What the function that is gone through ends with. -/
def IterT (cx : Cx) {Z : Type} (M : Nat → Z → Mem) (G : Nat → Z → List Fact) (N : Nat) (D l : Nat) (r : Loop) : Ending → World → Prop :=
  fun e w' => (∃ v, e = .returned v) ∧ ∃ z, OkW cx (M N z ++ tl D l r) (G N z) w'
/-- Blocks of another, with what is known beside them. -/
def outF (w0 : World) (mods : List Nat) (m : Mem) (fs : List Fact) : Fact where
  fp b := b ∈ m.map (fun p : Nat × Obj => p.1) ∨ ∃ f ∈ fs, f.fp b
  p w := (∀ b o, (b, o) ∈ m → w.heap[b]? = some o) ∧ (m.map (fun p : Nat × Obj => p.1)).Nodup ∧ (∀ b ∈ m.map (fun p : Nat × Obj => p.1), w0.heap.size ≤ b ∨ b ∈ mods) ∧ ∀ f ∈ fs, f.p w ∧ ∀ k, f.fp k → k ∉ m.map (fun p : Nat × Obj => p.1)
  dep w w' h hp := ⟨fun b o hb => (h b (.inl (List.mem_map.2 ⟨_, hb, rfl⟩))).trans (hp.1 b o hb), hp.2.1, hp.2.2.1, fun f hf => ⟨f.dep w w' (fun k hk => h k (.inr ⟨f, hf, hk⟩)) (hp.2.2.2 f hf).1, (hp.2.2.2 f hf).2⟩⟩
/-- A function is gone through as this says: the needs are told of the blocks and facts of whoever goes. -/
def SeqT (P : Program) (gf : FuncId) (lb : Array Value) {V : Type} (vals : Nat → V → List Value) (Y : World → List Nat → Nat → V → Fact) (N : Nat) (need : World → Prop) : Prop :=
  ∀ (cx : Cx) (Z : Type) (M : Nat → Z → Mem) (G : Nat → Z → List Fact) (z0 : Z) (D l : Nat) (r : Loop) (w : World), cx.P = P → (∀ w0 mods k z w, (outF w0 mods (M k z ++ tl D l r) (G k z)).p w → need w) → RoundsT P cx.w0 cx.mods M G vals (Y cx.w0 cx.mods) N D l r → OkW cx (M 0 z0 ++ tl D l r) (G 0 z0) w →
    Calls P gf (#[.func (.yield l) #[] #[]] ++ lb) w (IterT cx M G N D l r)
/-- What may be turned here may be turned there. -/
structure Sup (w0 : World) (mods : List Nat) (cx : Cx) : Prop where
  size : w0.heap.size ≤ cx.w0.heap.size
  mods : ∀ b ∈ cx.mods, w0.heap.size ≤ b ∨ b ∈ mods
theorem Sup.refl (cx : Cx) : Sup cx.w0 cx.mods cx := ⟨Nat.le_refl _, fun _ h => .inr h⟩
theorem Sup.may {w0 : World} {mods : List Nat} {cx : Cx} (h : Sup w0 mods cx) {b : Nat} (hb : cx.w0.heap.size ≤ b ∨ b ∈ cx.mods) : w0.heap.size ≤ b ∨ b ∈ mods :=
  hb.elim (fun h1 => .inl (Nat.le_trans h.size h1)) (h.mods b)
/-- Bytes in a new block. -/
def newB (w0 : World) (mods : List Nat) (g n c : Nat) (L : List Int) : Fact where
  fp := (factB (.slice (some ⟨g, 0, none⟩) n c) L).fp
  p w := (factB (.slice (some ⟨g, 0, none⟩) n c) L).p w ∧ (w0.heap.size ≤ g ∨ g ∈ mods)
  dep w w' h hp := ⟨(factB (.slice (some ⟨g, 0, none⟩) n c) L).dep w w' h hp.1, hp.2⟩
/-- What is so. -/
def pureF (p : Prop) : Fact where
  fp _ := False
  p _ := p
  dep _ _ _ h := h
section
variable {cx : Cx}
theorem OkW.outer {m own mem : Mem} {facts fs fi : List Fact} {w : World} (h : OkW cx mem facts w) (hp : Pk (own ++ m) mem) (hfs : ∀ f ∈ fs, f ∈ facts) (hfi : ∀ f ∈ fi, f ∈ facts) : OkW cx own (outF cx.w0 cx.mods m fs :: fi) w := by
  have h1 : OkW cx (own ++ m) (fs ++ fi) w := h.pk hp (fun f hf => (List.mem_append.1 hf).elim (hfs f) (hfi f))
  have hd := h1.dis
  rw [List.map_append, List.nodup_append] at hd
  refine ⟨fun b o hb => h1.mem b o (List.mem_append_left _ hb), hd.1, fun b hb => h1.may b (by rw [List.map_append]; exact List.mem_append_left _ hb), fun f hf => ?_, h1.fr⟩
  rcases List.mem_cons.1 hf with rfl | hf
  · refine ⟨⟨fun b o hb => h1.mem b o (List.mem_append_right _ hb), hd.2.1, fun b hb => h1.may b (by rw [List.map_append]; exact List.mem_append_right _ hb), fun f hf => ⟨(h1.facts f (List.mem_append_left _ hf)).1, fun k hk hm => ((h1.facts f (List.mem_append_left _ hf)).2 k hk).2 (by rw [List.map_append]; exact List.mem_append_right _ hm)⟩⟩, fun k hk => ?_⟩
    rcases hk with hk | ⟨f, hf, hk⟩
    · exact ⟨h1.lt (by rw [List.map_append]; exact List.mem_append_right _ hk), fun hm => hd.2.2 _ hm _ hk rfl⟩
    · have := (h1.facts f (List.mem_append_left _ hf)).2 k hk
      exact ⟨this.1, fun hm => this.2 (by rw [List.map_append]; exact List.mem_append_left _ hm)⟩
  · have := h1.facts f (List.mem_append_right _ hf)
    exact ⟨this.1, fun k hk => ⟨(this.2 k hk).1, fun hm => (this.2 k hk).2 (by rw [List.map_append]; exact List.mem_append_left _ hm)⟩⟩
theorem OkW.unout {m own : Mem} {facts fs : List Fact} {w : World} (h : OkW cx own facts w) (ho : outF cx.w0 cx.mods m fs ∈ facts) : OkW cx (own ++ m) fs w := by
  obtain ⟨⟨h1, h2, h3, h4⟩, h5⟩ := h.facts _ ho
  refine ⟨fun b o hb => (List.mem_append.1 hb).elim (h.mem b o) (h1 b o), ?_, fun b hb => ?_, fun f hf => ⟨(h4 f hf).1, fun k hk => ⟨(h5 k (.inr ⟨f, hf, hk⟩)).1, fun hm => ?_⟩⟩, h.fr⟩
  · rw [List.map_append, List.nodup_append]
    exact ⟨h.dis, h2, fun a ha b hb e => (h5 b (.inl hb)).2 (e ▸ ha)⟩
  · rw [List.map_append] at hb
    exact (List.mem_append.1 hb).elim (h.may b) (h3 b)
  · rw [List.map_append] at hm
    exact (List.mem_append.1 hm).elim (h5 k (.inr ⟨f, hf, hk⟩)).2 ((h4 f hf).2 k hk)
theorem J_conv {c : Code} {K : Exit → St → Prop} {st : St} (m' : Mem) (fs' : List Fact) (hc : ∀ w, OkW cx st.mem st.facts w → OkW cx m' fs' w) (h : J cx c K { st with mem := m', facts := fs' }) : J cx c K st :=
  fun a w ho => h a w ⟨ho.a, hc w ho.w⟩
theorem L_conv {ops : Array Oper} {K : St → Prop} {l : List Oper} {st : St} (m' : Mem) (fs' : List Fact) (hc : ∀ w, OkW cx st.mem st.facts w → OkW cx m' fs' w) (h : L cx ops K l { st with mem := m', facts := fs' }) : L cx ops K l st :=
  fun Q a w ho hk => h Q a w ⟨ho.a, hc w ho.w⟩ hk
theorem KretM_conv {fn : Func} {R : Ending → World → Prop} {st : St} (m' : Mem) (fs' : List Fact) (hc : ∀ w, OkW cx st.mem st.facts w → OkW cx m' fs' w) (h : KretM cx fn R .ret { st with mem := m', facts := fs' }) : KretM cx fn R .ret st :=
  fun a w ho => h a w ⟨ho.a, hc w ho.w⟩
/-- Nothing is told. -/
def trueF : Fact where
  fp _ := False
  p _ := True
  dep _ _ _ h := h
theorem FA.true {w : World} : FA w trueF := ⟨trivial, fun _ h => h.elim⟩
/-- A block as it lies. -/
def blkF (b : Nat) (o : Obj) : Fact where
  fp k := k = b
  p w := w.heap[b]? = some o
  dep w w' h hp := (h b rfl).trans hp
/-- A block of one's own becomes a fact. -/
theorem OkW.toBlk {m : Mem} {fs : List Fact} {w : World} {i b : Nat} {o : Obj} (h : OkW cx m fs w) (hi : m[i]? = some (b, o)) : OkW cx (m.eraseIdx i) (blkF b o :: fs) w := by
  have h1 := h.sub (List.eraseIdx_sublist m i) (fun f hf => hf)
  refine ⟨h1.mem, h1.dis, h1.may, fun f hf => ?_, h1.fr⟩
  rcases List.mem_cons.1 hf with rfl | hf
  · refine ⟨h.at hi, fun k hk => ?_⟩
    have hk : k = b := hk
    subst hk
    refine ⟨h.lt (List.mem_map.2 ⟨_, List.mem_of_getElem? hi, rfl⟩), fun hm => ?_⟩
    obtain ⟨⟨b', o'⟩, hm2, rfl⟩ := List.mem_map.1 hm
    obtain ⟨j, hj, hne⟩ := List.mem_eraseIdx_iff_getElem?.1 hm2
    exact hj (key_unique h.dis hne hi)
  · exact h1.facts f hf
theorem J_toBlk {c : Code} {K : Exit → St → Prop} {st : St} (i : Nat) {b : Nat} {o : Obj} {m' : Mem} (hi : st.mem[i]? = some (b, o)) (hm : st.mem.eraseIdx i = m') (h : J cx c K { st with mem := m', facts := blkF b o :: st.facts }) : J cx c K st :=
  J_conv _ _ (fun w hw => hm ▸ hw.toBlk hi) h

theorem round_fen {F : Fence} {ro : Option Nat} {n : Nat} {P : Program} {l : Nat} {f : FuncId} {tmps : Array Value} {assign body : Code} {w : World} {R : Ending → World → Prop} (h : RoundIn (fen none) n P l f tmps assign body w R) : RoundIn (fen ro) n P l f tmps assign body w R := h

/-- A call of the function that each element is handed to: whoever goes through goes on. -/
theorem S_yieldT {Z V : Type} {M : Nat → Z → Mem} {G : Nat → Z → List Fact} {vals : Nat → V → List Value} {Y : Nat → V → Fact} {N D l : Nat} {r : Loop} {o : Oper} {st : St} {K : St → Prop} {x : Operand} {args : Array Operand} {at_ : Array TypeId} {d : Nat} {k : Nat} {z : Z} {w0 : World} {mods : List Nat} (hsup : Sup w0 mods cx) (y : V)
    (ho : o.op = .call { callee := .value x, args := args, argTypes := at_ }) (hd : o.dst = some d) (hlt : Nat.blt d cx.nt = true) (hx : ev st.env x = some (.func (.yield l) #[] #[])) (hv : evs st.env args.toList = some (vals k y))
    (hout : outF cx.w0 cx.mods (M k z ++ tl D l r) (G k z) ∈ st.facts) (hR : RoundsT cx.P w0 mods M G vals Y N D l r) (hk : k < N)
    (own' : Mem) (hpk : Pk own' st.mem) (hY : ∀ w, OkW cx st.mem st.facts w → FA w (Y k y) ∧ ∀ b, (Y k y).fp b → b ∉ (M k z ++ tl D l r).map (·.1) ∧ b ∉ own'.map (·.1)) (Fi : List Fact) (hFi : ∀ f ∈ Fi, f ∈ st.facts ∧ f ∈ G k z)
    (h : ∀ z', GS (G k z ++ [Y k y]) (G (k + 1) z') (M k z) → K { st with env := (d, .bool true) :: st.env, mem := own', facts := outF cx.w0 cx.mods (M (k + 1) z' ++ tl D l r) (G (k + 1) z') :: Y k y :: Fi }) : S cx o K st := by
  intro Q next a w hok hkk
  refine ⟨fun _ _ => trivial, ?_⟩
  rw [Oper.semAt_eq _ _ _ (nd ho (fun c h => by cases h))]
  obtain ⟨hYa, hYb⟩ := hY w hok.w
  have hfo := hok.w.facts _ hout
  obtain ⟨⟨o1, o2, o3, o4⟩, o5⟩ := hfo
  -- as of now
  have hb : OkW (cxR cx.P w (M k z ++ tl D l r)) (M k z ++ tl D l r) (G k z ++ [Y k y]) w := by
    refine ⟨o1, o2, fun b hb => .inr hb, fun f hf => ?_, Fr.refl _ _⟩
    rcases List.mem_append.1 hf with hf | hf
    · exact ⟨(o4 f hf).1, fun j hj => ⟨(o5 j (.inr ⟨f, hf, hj⟩)).1, (o4 f hf).2 j hj⟩⟩
    · obtain rfl := List.mem_singleton.1 hf
      exact ⟨hYa.1, fun j hj => ⟨hYa.2 j hj, (hYb j hj).1⟩⟩
  obtain ⟨fn, tmps, assign, body, hrun, hround⟩ := hR k z y w hk (Nat.le_trans hsup.size hok.w.fr.size) (fun b hb => hsup.may (o3 b hb)) hb
  have hr : (execOp a.eval o).run cx.P w = .ok (.round l fn tmps assign body) w := by
    unfold execOp; rw [ho]
    have e1 : args.map a.eval = (vals k y).toArray := Array.ext' (by rw [Array.toList_map, hok.a.evs hv])
    simp only [resolve, hok.a.ev hx, e1, Deferred.ofValue, Sem.run_bind, Sem.run_pure, Result.andThen_ok, invoke, Array.empty_append, hrun]
  rw [hr]
  refine ⟨fun h => (by cases h), ?_⟩
  refine (round_fen (F := fen none) hround).mono ?_
  rintro e w' ⟨rfl, z', hgs, hw'⟩
  rw [hd]
  refine hkk { st with env := (d, .bool true) :: st.env, mem := own', facts := outF cx.w0 cx.mods (M (k + 1) z' ++ tl D l r) (G (k + 1) z') :: Y k y :: Fi } _ _ ⟨hok.a.put hlt _, ?_⟩ (h z' hgs)
  have how := hok.w.pk hpk (fun f hf => hf)
  have hfr : Fr ((M k z ++ tl D l r).map (·.1)) w w' := hw'.fr
  have hnotM : ∀ b ∈ own'.map (·.1), b ∉ (M k z ++ tl D l r).map (·.1) := fun b hb hm => by
    obtain ⟨l2, hp1, hp2⟩ := hpk
    exact (o5 b (.inl hm)).2 ((hp2.map _).subset (((hp1.map _).mem_iff).2 hb))
  refine ⟨fun b o hb => ?_, how.dis, how.may, fun f hf => ?_, hok.w.fr.step hfr (fun x hx => o3 x hx)⟩
  · have hbk : b ∈ own'.map (·.1) := List.mem_map.2 ⟨_, hb, rfl⟩
    exact (hfr.block b (how.lt hbk) (hnotM b hbk)).trans (how.mem b o hb)
  · have keep : ∀ f : Fact, f.p w → (∀ b, f.fp b → b < w.heap.size ∧ b ∉ (M k z ++ tl D l r).map (·.1) ∧ b ∉ own'.map (·.1)) → f.p w' ∧ ∀ b, f.fp b → b < w'.heap.size ∧ b ∉ own'.map (·.1) := fun f hp hfp =>
      ⟨f.dep w w' (fun b hb => hfr.block b (hfp b hb).1 (hfp b hb).2.1) hp, fun b hb => ⟨Nat.lt_of_lt_of_le (hfp b hb).1 hfr.size, (hfp b hb).2.2⟩⟩
    have hown : ∀ b, b ∉ st.mem.map (·.1) → b ∉ own'.map (·.1) := fun b hb hm => by
      obtain ⟨l2, hp1, hp2⟩ := hpk
      exact hb ((hp2.map _).subset (((hp1.map _).mem_iff).2 hm))
    rcases List.mem_cons.1 hf with rfl | hf
    · refine ⟨⟨hw'.mem, hw'.dis, fun b hb => ?_, fun f hf => ⟨(hw'.facts f hf).1, fun j hj => ((hw'.facts f hf).2 j hj).2⟩⟩, fun b hb => ?_⟩
      · rcases hw'.may b hb with h1 | h1
        · exact .inl (Nat.le_trans hok.w.fr.size h1)
        · exact o3 b h1
      · rcases hb with hb | ⟨f, hf, hb⟩
        · refine ⟨hw'.lt hb, fun hm => ?_⟩
          rcases hw'.may b hb with h1 | h1
          · have h2 := how.lt hm
            have h3 : w.heap.size ≤ b := h1
            omega
          · exact hnotM b hm h1
        · refine ⟨((hw'.facts f hf).2 b hb).1, fun hm => ?_⟩
          rcases hgs f hf with h1 | h1
          · rcases List.mem_append.1 h1 with h1 | h1
            · exact hown b (o5 b (.inr ⟨f, h1, hb⟩)).2 hm
            · obtain rfl := List.mem_singleton.1 h1
              exact (hYb b hb).2 hm
          · exact hnotM b hm (by rw [List.map_append]; exact List.mem_append_left _ (h1 b hb))
    · rcases List.mem_cons.1 hf with rfl | hf
      · exact keep _ hYa.1 (fun b hb => ⟨hYa.2 b hb, hYb b hb⟩)
      · have h1 := hFi f hf
        exact keep _ (hok.w.facts f h1.1).1 (fun b hb => ⟨((hok.w.facts f h1.1).2 b hb).1, (o4 f h1.2).2 b hb, hown b ((hok.w.facts f h1.1).2 b hb).2⟩)

theorem calls_in_m {P : Program} {f : FuncId} {fn : Func} {c : Code} {args : List Value} {w w0 : World} {R : Ending → World → Prop} (mods : List Nat) (mem : Mem) (facts : List Fact) (hf : P.funcs[f]? = some fn) (hb : fn.body = some c)
    (hn : Nat.ble args.length fn.ntmps = true) (hw : OkW { P := P, w0 := w0, nt := fn.ntmps, mods := mods } mem facts w)
    (h : J { P := P, w0 := w0, nt := fn.ntmps, mods := mods } c (KretM { P := P, w0 := w0, nt := fn.ntmps, mods := mods } fn R) { env := envOf 0 args, mem := mem, facts := facts }) : Calls P f args.toArray w R := by
  refine (callsIn_wide (n := 0)).1 (callsIn_of_wp_marks hf hb trivial ?_)
  have hn' : args.length ≤ fn.ntmps := by simpa [Nat.ble_eq] using hn
  have := h { tmps := args.toArray ++ Array.replicate (fn.ntmps - args.toArray.size) undef, defers := [] } w ⟨⟨fun k v hk => ?_, by simp; omega, rfl⟩, hw⟩
  · refine Go.wpIn_mono this ?_
    rintro e a w ⟨s, h1, h2⟩
    cases e with
    | normal => exact h2 a w h1
    | ret => exact h2 a w h1
    | exit id => exact h2.elim
    | goto l => exact h2.elim
    | panic c => exact h2.elim
    | outgrown => exact h2.elim
  · obtain ⟨_, h2⟩ := get_envOf _ _ _ _ hk
    simp only [Nat.sub_zero] at h2
    have hl := (List.getElem?_eq_some_iff.1 h2).1
    have h3 := (List.getElem?_eq_some_iff.1 h2).2
    simp [Array.getElem?_append, hl, h3]

theorem J_rangeFuncT {Z V : Type} {K : Exit → St → Prop} {st : St} {g : Operand} {ps : Array Tmp} {assign body : Code} {gf : FuncId} {lb : Array Value}
    (M : Nat → Z → Mem) (G : Nat → Z → List Fact) (z0 : Z) (N : Nat) (vals : Nat → V → List Value) (Y : Nat → V → Fact)
    (hro : cx.ro = none) (hds : st.ds = []) (hg : ev st.env g = some (.func (.func gf) #[] lb)) (hf : Txt cx.P gf) (hps : ∀ k y, (vals k y).length = ps.size) (hpl : ∀ p ∈ ps.toList, Nat.blt p cx.nt = true)
    (h0 : ∀ w, OkW cx st.mem st.facts w → OkW cx (M 0 z0) (G 0 z0) w)
    (hiter : ∀ D l r w, RoundsT cx.P cx.w0 cx.mods M G vals Y N D l r → OkW cx (M 0 z0 ++ tl D l r) (G 0 z0) w → Calls cx.P gf (#[.func (.yield l) #[] #[]] ++ lb) w (IterT cx M G N D l r))
    (hassign : ∀ w1 md D l r k z y, k < N → Sup cx.w0 cx.mods { cx with w0 := w1, mods := md, ro := some l } → J { cx with w0 := w1, mods := md, ro := some l } assign (Exit.thenS (fun s1 => ∃ (ex : Mem) (fs1 : List Fact), s1.ds = [] ∧ (∀ w, OkW { cx with w0 := w1, mods := md, ro := some l } s1.mem s1.facts w → OkW { cx with w0 := w1, mods := md, ro := some l } ((M k z ++ tl D l r) ++ ex) fs1 w) ∧
        J { cx with w0 := w1, mods := md, ro := some l } body (fun e s => match e with
          | .normal => ∃ z', GS (G k z ++ [Y k y]) (G (k + 1) z') (M k z) ∧ ∀ w, OkW { cx with w0 := w1, mods := md, ro := some l } s.mem s.facts w → OkW { cx with w0 := w1, mods := md, ro := some l } (M (k + 1) z' ++ tl D l { r with state := .busy }) (G (k + 1) z') w
          | _ => False) { s1 with mem := (M k z ++ tl D l { r with state := .busy }) ++ ex, facts := fs1 }) (fun _ _ => False))
      { env := zipE ps.toList (vals k y) st.env, mem := M k z ++ tl D l r, facts := G k z ++ [Y k y], ds := [] })
    (hdone : ∀ D z, K .normal { st with mem := M N z ++ [(D, .deferred (some []))], facts := G N z, ds := [{ target := .collected D, args := #[] }] }) :
    J cx (.rangeFunc g ps assign body) K st := by
  intro a w ho
  refine wpIn_rangeFunc fun fn hfn => ?_
  have hro' : (fen cx.ro).round = none := by rw [hro]; rfl
  rw [hro']
  obtain ⟨r, hr⟩ : ∃ r : Loop, r = { state := .ready, pending := none, fn, tmps := a.tmps, params := ps, assign, body, defers := w.heap.size } := ⟨_, rfl⟩
  have hrs : r.state = .ready := by rw [hr]
  have hrp : r.pending = none := by rw [hr]
  have hw1 : OkW cx (M 0 z0 ++ tl w.heap.size (w.heap.size + 1) r) (G 0 z0) ((w.alloc (.deferred (some []))).alloc (.loop r)) := by
    have h1 := ((h0 w ho.w).alloc (.deferred (some []))).alloc (.loop r)
    rw [World.size_alloc] at h1
    simpa [tl] using h1
  refine ⟨w.heap.size + 1, [{ target := .collected w.heap.size, args := #[] }], (w.alloc (.deferred (some []))).alloc (.loop r), { target := .fn (.func gf) lb, args := #[.func (.yield (w.heap.size + 1)) #[] #[]] }, (w.alloc (.deferred (some []))).alloc (.loop r), gf,
    #[.func (.yield (w.heap.size + 1)) #[] #[]] ++ lb, (w.alloc (.deferred (some []))).alloc (.loop r), ?_, ?_, fun _ _ => trivial, ?_, fun h => (by cases h), ?_⟩
  · rw [hr]; exact run_enterLoop_outer _ _ _ _ _
  · simp only [resolve, ho.a.ev hg]
    simp [go_sem, Deferred.ofValue, Act.eval]
  · simp only [invoke]
    exact hf _ _
  · refine callsIn_fen ((hiter _ _ r _ ?_ hw1).mono ?_)
    · -- a round
      intro k z y W hk hsz hmay hW
      have hl := hW.at (tl_at _ _ _ _)
      have hy := run_yield (P := cx.P) (args := (vals k y).toArray) hl (by rw [hr]; simpa using hps k y)
      refine ⟨_, _, _, _, hy, ?_⟩
      obtain ⟨md, hmd⟩ : ∃ md, md = (M k z ++ tl w.heap.size (w.heap.size + 1) r).map (·.1) := ⟨_, rfl⟩
      have ha0 : OkA { cx with w0 := W, mods := md, ro := some (w.heap.size + 1) } (zipE ps.toList (vals k y) st.env) [] { tmps := (r.params.zip (vals k y).toArray).foldl (fun t (p, v) => t.setIfInBounds p v) r.tmps, defers := [] } := by
        have := OkA.zipL (cx := { cx with w0 := W, mods := md, ro := some (w.heap.size + 1) }) (ds := []) (env := st.env) (ps := ps.toList) (vs := vals k y) (tmps := a.tmps) ⟨ho.a.env, ho.a.size, rfl⟩ hpl
        rw [hr]
        have e : (ps.zip (vals k y).toArray).foldl (fun t (p, v) => t.setIfInBounds p v) a.tmps = (ps.toList.zip (vals k y)).foldl (fun t (p, v) => t.setIfInBounds p v) a.tmps := by
          rw [← Array.foldl_toList, Array.toList_zip]
        show OkA _ _ _ { tmps := (ps.zip (vals k y).toArray).foldl (fun t (p, v) => t.setIfInBounds p v) a.tmps, defers := [] }
        rw [e]
        exact this
      refine roundIn_of_wpIn (F := fen none) (n := 0) hfn ?_
      have hW' : OkW { cx with w0 := W, mods := md, ro := some (w.heap.size + 1) } (M k z ++ tl w.heap.size (w.heap.size + 1) r) (G k z ++ [Y k y]) W := hW.cast rfl (by rw [hmd]; rfl)
      have hJ := hassign W md w.heap.size (w.heap.size + 1) r k z y hk ⟨hsz, by rw [hmd]; exact hmay⟩ _ W ⟨ha0, hW'⟩
      have e1 : (fen none).inRound (w.heap.size + 1) = fen (some (w.heap.size + 1)) := rfl
      rw [hr] at hJ ⊢
      rw [← hr] at hJ ⊢
      rw [e1]
      rw [show r.assign = assign by rw [hr], show r.body = body by rw [hr]]
      refine Go.wpIn_mono hJ ?_
      intro e a1 W1 ⟨s1, hs1, hK1⟩
      cases e with
      | normal =>
        obtain ⟨ex, fs1, hd1, hm1, hb1⟩ := hK1
        have hw1' := hm1 _ hs1.w
        have hlt1 : (M k z).length + 1 < (M k z ++ tl w.heap.size (w.heap.size + 1) r).length := by rw [List.length_append]; simp [tl]
        have hat1 : ((M k z ++ tl w.heap.size (w.heap.size + 1) r) ++ ex)[(M k z).length + 1]? = some (w.heap.size + 1, .loop r) := by
          rw [List.getElem?_append_left hlt1]
          exact tl_at _ _ _ _
        have hl1 := hw1'.at hat1
        refine ⟨_, run_beginRound hl1 hrs, ?_⟩
        have hw2 := hw1'.putObj (o' := .loop { r with state := .busy }) hat1
        rw [List.set_append_left _ _ hlt1, tl_set] at hw2
        refine Go.wpIn_mono (hb1 a1 _ ⟨hs1.a, hw2⟩) ?_
        intro e2 a2 W2 ⟨s2, hs2, hK2⟩
        cases e2 with
        | normal =>
          obtain ⟨z', hgs, hsub⟩ := hK2
          have h3 := hsub _ hs2.w
          have hl3 := h3.at (tl_at _ _ _ _)
          refine ⟨_, _, run_endRound none hl3, rfl, z', hgs, ?_⟩
          have hrr : ({ ({ r with state := .busy } : Loop) with state := if (none : Option Code).isNone then .ready else .done, pending := none } : Loop) = r := by
            cases r; simp_all
          have h5 := h3.putObj (o' := .loop { ({ r with state := .busy } : Loop) with state := if (none : Option Code).isNone then .ready else .done, pending := none }) (tl_at _ _ _ _)
          rw [tl_set, hrr] at h5
          rw [hrr]
          exact h5.cast rfl (by rw [hmd]; rfl)
        | ret => exact hK2.elim
        | exit id => exact hK2.elim
        | goto t => exact hK2.elim
        | panic c => exact hK2.elim
        | outgrown => exact hK2.elim
      | exit id => exact hK1.elim
      | goto t => exact hK1.elim
      | ret => exact hK1.elim
      | panic c => exact hK1.elim
      | outgrown => exact hK1.elim
    · -- behind the function
      rintro e W2 ⟨⟨v, rfl⟩, z, hz⟩
      have ha2 : OkA cx st.env [{ target := .collected w.heap.size, args := #[] }] { a with defers := [{ target := .collected w.heap.size, args := #[] }] ++ a.defers } :=
        ⟨ho.a.env, ho.a.size, by show _ ++ a.defers = _; rw [ho.a.ds, hds]; rfl⟩
      have drop : ∀ (Mx : Mem) (r' : Loop), List.Sublist (Mx ++ [(w.heap.size, .deferred (some []))]) (Mx ++ tl w.heap.size (w.heap.size + 1) r') := fun Mx r' =>
        List.Sublist.append (List.Sublist.refl _) (List.Sublist.cons_cons _ (List.nil_sublist _))
      have hl2 := hz.at (tl_at _ _ _ _)
      refine ⟨_, _, run_endLoop hl2 (by rw [hrs]; simp), ?_⟩
      have h3 := hz.putObj (o' := .loop { r with state := .exhausted }) (tl_at _ _ _ _)
      rw [tl_set] at h3
      rw [hrp] at h3 ⊢
      exact ⟨{ st with mem := M N z ++ [(w.heap.size, .deferred (some []))], facts := G N z, ds := [{ target := .collected w.heap.size, args := #[] }] }, ⟨ha2, h3.sub (drop _ _) (fun f hf => hf)⟩, hdone _ z⟩
theorem outF_sub {w0 : World} {mods : List Nat} {m m' : Mem} {fs : List Fact} {w : World} (h : (outF w0 mods m fs).p w) (hs : List.Sublist m' m) : (outF w0 mods m' fs).p w :=
  ⟨fun b o hb => h.1 b o (hs.subset hb), (hs.map _).nodup h.2.1, fun b hb => h.2.2.1 b ((hs.map _).subset hb), fun f hf => ⟨(h.2.2.2 f hf).1, fun k hk hm => (h.2.2.2 f hf).2 k hk ((hs.map _).subset hm)⟩⟩
/-- A row of one's own is handed to the other. -/
theorem own_Y {m mem : Mem} {fs facts : List Fact} {w w0 : World} {mods : List Nat} {i g n c : Nat} {L : List Int} {r : List Value} {T : TypeId} (hs : Sup w0 mods cx) (h : OkW cx mem facts w) (hi : mem[i]? = some (g, row T (dg L ++ r))) (hl : L.length = n) (ho : outF cx.w0 cx.mods m fs ∈ facts) :
    FA w (newB w0 mods g n c L) ∧ ∀ b, (newB w0 mods g n c L).fp b → b ∉ m.map (·.1) ∧ b ∉ (mem.eraseIdx i).map (·.1) := by
  have h1 : SlB w (.slice (some ⟨g, 0, none⟩) n c) L := SlB.of_own h hi hl c
  have hgm : g ∈ mem.map (·.1) := List.mem_map.2 ⟨_, List.mem_of_getElem? hi, rfl⟩
  refine ⟨⟨⟨h1, hs.may (h.may g hgm)⟩, fun k hk => factB_lt h1 k hk⟩, fun b hb => ?_⟩
  obtain ⟨_, off, n', c', e⟩ := hb
  simp only [Value.slice.injEq, Option.some.injEq, Addr.mk.injEq] at e
  obtain ⟨⟨rfl, _⟩, _⟩ := e
  refine ⟨fun hm => ((h.facts _ ho).2 g (.inl hm)).2 hgm, fun hm => ?_⟩
  obtain ⟨⟨b', o'⟩, hm2, rfl⟩ := List.mem_map.1 hm
  obtain ⟨j, hj, hne⟩ := List.mem_eraseIdx_iff_getElem?.1 hm2
  exact hj (key_unique h.dis hne hi)
theorem J_pureF {c : Code} {K : Exit → St → Prop} {st : St} {p : Prop} (hm : pureF p ∈ st.facts) (h : p → J cx c K st) : J cx c K st :=
  fun a w ho => h (ho.w.facts _ hm).1 a w ho
theorem KretM_pureF {fn : Func} {R : Ending → World → Prop} {st : St} {p : Prop} (hm : pureF p ∈ st.facts) (h : p → KretM cx fn R .ret st) : KretM cx fn R .ret st :=
  fun a w ho => h (ho.w.facts _ hm).1 a w ho
theorem OkW.addP {m : Mem} {fs : List Fact} {w : World} {p : Prop} (h : OkW cx m fs w) (hp : p) : OkW cx m (pureF p :: fs) w :=
  ⟨h.mem, h.dis, h.may, fun f hf => by
    rcases List.mem_cons.1 hf with rfl | hf
    · exact ⟨hp, fun k hk => hk.elim⟩
    · exact h.facts f hf, h.fr⟩
theorem V_loadFN {o : Oper} {st : St} {t : TypeId} {x : Operand} {d : TypeDesc} {b off : Nat} {l vs : List Value} {T : TypeId} (ho : o.op = .load t x) (hx : ev st.env x = some (.pointer (some ⟨b, off, none⟩))) (hu : cx.P.underlying t = some d) (hs : scalarB d = false)
    (hz : (cx.P.info? t).map (·.size) = some vs.length) (hb : ∀ w, OkW cx st.mem st.facts w → w.heap[b]? = some (row T l)) (hp : (l.drop off).take vs.length = vs) : V cx o st (.agg vs.toArray) :=
  V_loadN ho hx hu hs hz fun w hw j v hj => by
    refine cell_of (hb w hw) ?_
    have hlt := (List.getElem?_eq_some_iff.1 hj).1
    rw [← hp, List.getElem?_take_of_lt hlt, List.getElem?_drop] at hj
    rw [List.getElem?_toArray]
    exact hj
theorem rows_vi {α : Type} {f : α → List Value} {sz : Nat} {l : List α} {i : Nat} {n : Int} (d : α) (hf : ∀ x, (f x).length = sz + 1) (h : i < l.length) (hn : n = (i : Int)) : ∀ (k : Nat) (u : Value), (f (l.getD i d))[k]? = some u → (l.map f).flatten[n.toNat * (sz + 1) + k]? = some u := by
  subst hn
  exact rows_v d hf h
theorem pk3 (A B C : Mem) : Pk ((A ++ C) ++ B) ((A ++ B) ++ C) :=
  ⟨(A ++ B) ++ C, by rw [List.append_assoc, List.append_assoc]; exact (List.Perm.append_left A List.perm_append_comm), List.Sublist.refl _⟩
/-- A block of words, told of a foreign block. -/
theorem GS.sub {fs gs : List Fact} {m : Mem} (h : ∀ f ∈ gs, f ∈ fs) : GS fs gs m := fun f hf => .inl (h f hf)
theorem in_assign (A T B m : Mem) : Pk (((A ++ m) ++ T) ++ B) (((A ++ T) ++ B) ++ m) := by
  refine ⟨_, ?_, List.Sublist.refl _⟩
  rw [List.append_assoc A T B, List.append_assoc A (T ++ B) m, List.append_assoc A m T, List.append_assoc A (m ++ T) B, List.append_assoc m T B]
  exact List.Perm.append_left A List.perm_append_comm
theorem in_body (A G m T B : Mem) : Pk ((A ++ (B ++ (G ++ T))) ++ m) ((((A ++ G) ++ m) ++ T) ++ B) := by
  refine ⟨_, ?_, List.Sublist.refl _⟩
  rw [List.append_assoc _ T B, List.append_assoc _ m (T ++ B), List.append_assoc A G _, List.append_assoc A _ m]
  refine List.Perm.append_left A ?_
  refine (List.Perm.append_left G (List.perm_append_comm (l₁ := m) (l₂ := T ++ B))).trans ?_
  rw [← List.append_assoc G _ m, ← List.append_assoc G T B]
  exact List.Perm.append_right m List.perm_append_comm
end
end Go.Sx

/- Short sums, bytes of digests, what a proof is summed of, whether it may be for a claim. -/
set_option linter.unusedVariables false
set_option linter.unusedSimpArgs false
set_option maxRecDepth 100000
namespace Go.Proofs.YtfdmjjhgdbpfeaaDoor
open Go.Sx
theorem szDq : (Tryd.prog.info? 5).map (·.size) = some 1 := by kernel_rfl
theorem szDg : (Tryd.prog.info? 26).map (·.size) = some 32 := by kernel_rfl
theorem pDg {cs : Array Value} {off : Nat} {f : Dg} {w : World} (h : cs.extract off (off + 32) = (dg (l32 f)).toArray) : (part 26 cs off).run Tryd.prog w = .ok (.agg (dg (l32 f)).toArray) w := by rw [run_partArr Tryd.underlying26 szDg, h]
theorem eqDgD (x y : Dg) (w : World) (d : Nat) : (Op.equalIn (d + 2) 26 (.agg (dg (l32 x)).toArray) (.agg (dg (l32 y)).toArray)).run Tryd.prog w = .ok (decide (x = y)) w := by
  refine (run_eqDg Tryd.underlying26 Tryd.underlying5 szDq (l32_len x) (l32_len y) w d).trans ?_
  congr 1
  rw [decide_eq_decide, l32_iff]
theorem run_equalIn_boolD {P : Program} {t : TypeId} (w : World) (d : Nat) (a b : Bool) (h : P.underlying t = some .bool) : (Op.equalIn (d + 1) t (.bool a) (.bool b)).run P w = .ok (decide (a = b)) w := by
  rw [run_equalIn_bool w d t a b h]
  cases a <;> cases b <;> rfl
def vr0 : Vr := (0, 0, ⟨#[]⟩)
theorem eqDgDO (x y : Dg) (w : World) : (Op.equal 26 (.agg (dgM x).toArray) (.agg (dgM y).toArray)).run Tryd.prog w = .ok (decide (x = y)) w := by
  show (Op.equalIn (9998 + 2) _ _ _).run _ w = _
  exact eqDgD x y w 9998
theorem eqVrD (x y : Vr) (w : World) (d : Nat) : (Op.equalIn (d + 2) 79 (.agg (vrM x).toArray) (.agg (vrM y).toArray)).run Tryd.prog w = .ok (decide (x = y)) w := by
  rw [run_eqStruct w (d + 1) _ _ (by kernel_rfl) (by kernel_rfl) (spec := [(true, 3, 0), (true, 77, 1), (true, 9, 2)]) (by kernel_rfl)]
  refine ((eqF_and (p := x.1 = y.1) (q := x.2.1 = y.2.1 ∧ x.2.2 = y.2.2 ∧ True) (run_part1 (cs := vrM x) (v := .int .i64 x.1) Tryd.underlying3 rfl rfl) (run_part1 (cs := vrM y) (v := .int .i64 y.1) Tryd.underlying3 rfl rfl) (run_equalIn_intD w (d + 0) _ _ Tryd.underlying3) (eqF_and (p := x.2.1 = y.2.1) (q := x.2.2 = y.2.2 ∧ True) (run_part1 (cs := vrM x) (v := .int .i64 x.2.1) Tryd.underlying77 rfl rfl) (run_part1 (cs := vrM y) (v := .int .i64 y.2.1) Tryd.underlying77 rfl rfl) (run_equalIn_intD w (d + 0) _ _ Tryd.underlying77) (eqF_and (p := x.2.2 = y.2.2) (q := True) (run_part1 (cs := vrM x) (v := .string x.2.2) Tryd.underlying9 rfl rfl) (run_part1 (cs := vrM y) (v := .string y.2.2) Tryd.underlying9 rfl rfl) (run_equalIn_strD w (d + 0) _ _ Tryd.underlying9) eqF_nil)))).trans ?_
  congr 1
  rw [decide_eq_decide]
  constructor
  · rintro ⟨h0, h1, h2, _⟩
    exact (Prod.ext h0 (Prod.ext h1 h2))
  · rintro rfl
    exact ⟨rfl, rfl, rfl, trivial⟩
theorem eqVrDO (x y : Vr) (w : World) : (Op.equal 79 (.agg (vrM x).toArray) (.agg (vrM y).toArray)).run Tryd.prog w = .ok (decide (x = y)) w := by
  show (Op.equalIn (9998 + 2) _ _ _).run _ w = _
  exact eqVrD x y w 9998
theorem eqCmD (x y : Cm) (w : World) (d : Nat) : (Op.equalIn (d + 3) 54 (.agg (cmM x).toArray) (.agg (cmM y).toArray)).run Tryd.prog w = .ok (decide (x = y)) w := by
  rw [run_eqStruct w (d + 2) _ _ (by kernel_rfl) (by kernel_rfl) (spec := [(true, 4, 0), (true, 26, 1)]) (by kernel_rfl)]
  refine ((eqF_and (p := x.1 = y.1) (q := l32 x.2 = l32 y.2 ∧ True) (run_part1 (cs := cmM x) (v := .bool x.1) Tryd.underlying4 rfl rfl) (run_part1 (cs := cmM y) (v := .bool y.1) Tryd.underlying4 rfl rfl) (run_equalIn_boolD w (d + 1) _ _ Tryd.underlying4) (eqF_and (p := l32 x.2 = l32 y.2) (q := True) (pDg (show (cmM x).toArray.extract 1 (1 + 32) = (dg (l32 x.2)).toArray by kernel_rfl)) (pDg (show (cmM y).toArray.extract 1 (1 + 32) = (dg (l32 y.2)).toArray by kernel_rfl)) (run_eqDg Tryd.underlying26 Tryd.underlying5 szDq (l32_len x.2) (l32_len y.2) w (d + 0)) eqF_nil))).trans ?_
  congr 1
  rw [decide_eq_decide]
  constructor
  · rintro ⟨h0, h1, _⟩
    exact (Prod.ext h0 (l32_inj h1))
  · rintro rfl
    exact ⟨rfl, rfl, trivial⟩
theorem eqCmDO (x y : Cm) (w : World) : (Op.equal 54 (.agg (cmM x).toArray) (.agg (cmM y).toArray)).run Tryd.prog w = .ok (decide (x = y)) w := by
  show (Op.equalIn (9997 + 3) _ _ _).run _ w = _
  exact eqCmD x y w 9997
/-- A claim about a path, and its proof. -/
def sdM (p : Dg) (c : Cm) (x : Pf) (s : Sl) : List Value := [mi 32] ++ (dg (l32 p) ++ (cmM c ++ pfM x s))
def lfM (p v : Dg) : List Value := dg (l32 p) ++ dg (l32 v)
def cm0 : Cm := (false, dz)
theorem el5 : ElemOf Tryd.prog 5 1 1 (.int .u8 0) := elem_of (by kernel_rfl) rfl
def l2s (l : List Dg) : List Int := (l.map l32).flatten
theorem l2s_len (l : List Dg) : (l2s l).length = 32 * l.length := by
  unfold l2s
  induction l with
  | nil => rfl
  | cons a l ih => rw [List.map_cons, List.flatten_cons, List.length_append, l32_len, ih, List.length_cons]; omega
theorem l2s_take {l : List Dg} {i : Nat} (h : i < l.length) : l2s (l.take (i + 1)) = l2s (l.take i) ++ l32 (l.getD i dz) := by
  unfold l2s
  rw [take_s dz h, List.map_append, List.flatten_append]
  simp
theorem ssum_d (L : List Int) (a : Option Addr) (n c : Nat) (w : World) (hu : SlB w (.slice a n c) L) (hby : Byt L) (hcn : n ≤ c) (hK : TabK KT 1 w) (hsz : L.length ≤ 1099511627000) : Calls Tryd.prog 29 #[.slice a n c] w fun e w' => e = .returned (.agg (dgM (shD L)).toArray) ∧ Fr [] w w' := by
  rw [show dgM (shD L) = dg (shaP L) from by unfold dgM; rw [l32_shD]]
  exact ssum_w L a n c w hu hby hcn hK hsz
theorem rsum_d (L : List Int) (a : Option Addr) (n c : Nat) (w : World) (hu : SlB w (.slice a n c) L) (hby : Byt L) (hR : TabK KT 0 w) (hsz : L.length ≤ 1099511627000) : Calls Tryd.prog 52 #[.slice a n c] w fun e w' => e = .returned (.agg (dgM (shD L)).toArray) ∧ Fr [] w w' := by
  rw [show dgM (shD L) = dg (shaP L) from by unfold dgM; rw [l32_shD]]
  exact rsum_w L a n c w hu hby hR hsz
theorem bs2d (p q : Dg) (w : World) : (Instr.buildSlice 24 2 [(0, .agg (dgM p).toArray), (1, .agg (dgM q).toArray)].toArray).run Tryd.prog w = .ok (.slice (some ⟨w.heap.size, 0, none⟩) 2 2) (w.alloc (row 26 (([p, q].map dgM).flatten))) := by kernel_rfl
theorem bs1b (m : Int) (w : World) : (Instr.buildSlice 57 1 [(0, .int .u8 m)].toArray).run Tryd.prog w = .ok (.slice (some ⟨w.heap.size, 0, none⟩) 1 1) (w.alloc (row 5 (dg [m]))) := by kernel_rfl
theorem cons_app {l : List Dg} {i : Nat} (m : Int) (h : i < l.length) : dg (m :: l2s (l.take i)) ++ dgM (l.getD i dz) = dg (m :: l2s (l.take (i + 1))) := by
  rw [l2s_take h, ← List.cons_append, dg_append]
  rfl
theorem st_1 {p : Dg} {c : Cm} {x : Pf} (h : c.1 = true) : startP p c x = 0 :: l2s [p, c.2] := by unfold startP l2s; rw [if_pos h]; simp
theorem st_2 {p : Dg} {c : Cm} {x : Pf} (h : ¬ c.1 = true) (h2 : x.other = true) : startP p c x = 0 :: l2s [x.path, x.val] := by unfold startP l2s; rw [if_neg h, if_pos h2]; simp
theorem st_3 {p : Dg} {c : Cm} {x : Pf} (h : ¬ c.1 = true) (h2 : ¬ x.other = true) : startP p c x = 2 :: l2s [] := by unfold startP l2s; rw [if_neg h, if_neg h2]; rfl
theorem sz5pa : (Tryd.prog.info? 5).map (·.size) = some 1 := by kernel_rfl
theorem sz26pa : (Tryd.prog.info? 26).map (·.size) = some 32 := by kernel_rfl
theorem tx29pa : Txt Tryd.prog 29 := txt_of Tryd.func29 rfl (by kernel_rfl)
theorem tx35pa : Txt Tryd.prog 35 := txt_of Tryd.func35 rfl (by kernel_rfl)
theorem tx36pa : Txt Tryd.prog 36 := txt_of Tryd.func36 rfl (by kernel_rfl)
theorem tx89pa : Txt Tryd.prog 89 := txt_of Tryd.func89 rfl (by kernel_rfl)
theorem z26pa : (Tryd.prog.info? 26).bind (·.zero) = some (.agg (dgM dz).toArray) := by kernel_rfl

theorem width_w (w : World) :
    Calls Tryd.prog 35 #[.int .i64 32] w fun e w' => e = .returned (.bool true) ∧ Fr [] w w' := by
  refine calls_of (args := [.int .i64 32]) ([]) ([]) ([]) Tryd.func35 rfl rfl (okW0 _ _ _ _) ?_
  refine J_seq ?_
  refine J_region ?_
  refine L_v rfl rfl rfl (V_assign rfl rfl) ?_
  refine L_nil ?_
  change J _ _ _ _
  refine J_seq ?_
  refine J_region ?_
  refine L_v rfl rfl rfl (V_move rfl rfl) ?_
  refine L_v rfl rfl rfl (V_geq rfl rfl rfl rfl) ?_
  refine L_v rfl rfl rfl (V_move rfl rfl) ?_
  apply L_and 2 5 8
  · rfl
  · rfl
  · rfl
  · rfl
  · rfl
  · rfl
  · rfl
  · kernel_rfl
  · intro hb1 _ _ hk1
    refine L_wv rfl rfl rfl rfl rfl rfl (V_move rfl rfl) ?_
    refine L_wv rfl rfl rfl rfl rfl rfl (V_leq rfl rfl rfl rfl) ?_
    exact hk1 _ ⟨rfl, rfl, rfl, rfl, ext_cut 2 (by kernel_rfl) (by kernel_rfl)⟩
  refine L_v rfl rfl rfl (V_assign rfl rfl) ?_
  refine L_nil ?_
  change J _ _ _ _
  refine J_ret ?_
  change Kret _ _ _ Exit.ret _
  refine ret1 rfl rfl (RV_t rfl) ?_
  exact fun w' h => ⟨rfl, h.fr⟩

theorem short_w (d : Dg) (w : World) :
    Calls Tryd.prog 36 #[.int .i64 32, .agg (dgM d).toArray] w fun e w' => e = .returned (.agg (dgM d).toArray) ∧ Fr [] w w' := by
  refine calls_of (args := [.int .i64 32, .agg (dgM d).toArray]) ([]) ([]) ([]) Tryd.func36 rfl rfl (okW0 _ _ _ _) ?_
  refine J_seq ?_
  refine J_region ?_
  refine L_box rfl rfl rfl rfl rfl (fun b0 => ?_)
  refine L_alloc rfl rfl rfl rfl z26pa (fun b1 => ?_)
  refine L_nil ?_
  change J _ _ _ _
  refine J_seq ?_
  refine J_region ?_
  refine L_alloc rfl rfl rfl rfl z26pa (fun b2 => ?_)
  refine L_nil ?_
  change J _ _ _ _
  refine J_seq ?_
  refine J_seq ?_
  refine J_region ?_
  refine L_v rfl rfl rfl (V_move rfl rfl) ?_
  refine L_callV rfl rfl rfl rfl rfl rfl tx35pa (fun w1 hw => width_w w1) ?_
  refine L_nil ?_
  change J _ _ _ _
  refine J_true rfl ?_
  refine J_regionT 3 rfl (by kernel_rfl) ?_
  refine LQ_v rfl rfl rfl (V_move rfl rfl) ?_
  refine LQ_v rfl rfl rfl (V_sliceArrS (l := 0) (h := 32) (v := .slice (some ⟨b2, 0, none⟩) 32 32) rfl rfl Tryd.underlying26 sz5pa rfl (Bd.at rfl rfl) (by omega) (by omega) rfl) ?_
  refine LQ_v rfl rfl rfl (V_sliceArr rfl rfl Tryd.underlying26 sz5pa) ?_
  refine LQ_nil ?_
  refine L_copyD 2 (dgM d) (L := l32 d) rfl rfl rfl rfl rfl Tryd.underlying57 sz5pa rfl (fun w1 hw => SlB.of_mem' hw (i := 0) rfl rfl 32) (Nat.le_of_ble_eq_true (by kernel_rfl)) (by kernel_rfl) ?_
  refine L_nil ?_
  change J _ _ _ _
  refine J_seq ?_
  refine J_region ?_
  refine L_v rfl rfl rfl (V_loadT 2 (vs := dgM d) rfl rfl rfl Tryd.underlying26 rfl sz26pa (by kernel_rfl) (by kernel_rfl)) ?_
  refine L_storeW 1 rfl rfl rfl rfl rfl rfl (szd sz26pa (by kernel_rfl)) (all_one (by kernel_rfl)) (by kernel_rfl) ?_
  refine L_nil ?_
  change J _ _ _ _
  refine J_ret ?_
  change Kret _ _ _ Exit.ret _
  refine ret1 rfl rfl (RV_c 1 rfl rfl Tryd.underlying26 rfl (szd sz26pa (by kernel_rfl))) ?_
  exact fun w' h => ⟨rfl, h.fr⟩

theorem Short_w (L : List Int) (a : Option Addr) (n c : Nat) (w : World) (hu : SlB w (.slice a n c) L) (hby : Byt L) (hcn : n ≤ c) (hK : TabK KT 1 w) (hsz : L.length ≤ 1000) :
    Calls Tryd.prog 13 #[.int .i64 32, .slice a n c] w fun e w' => e = .returned (.tuple #[.agg (dgM (shD L)).toArray, .int .i64 0]) ∧ Fr [] w w' := by
  refine calls_of (args := [.int .i64 32, .slice a n c]) ([]) ([]) ([]) Tryd.func13 rfl rfl (okW0 _ _ _ _) ?_
  refine J_seq ?_
  refine J_region ?_
  refine L_alloc rfl rfl rfl rfl z26pa (fun b0 => ?_)
  refine L_v rfl rfl rfl (V_assign rfl rfl) ?_
  refine L_nil ?_
  change J _ _ _ _
  refine J_seq ?_
  refine J_seq ?_
  refine J_region ?_
  refine L_v rfl rfl rfl (V_move rfl rfl) ?_
  refine L_callV rfl rfl rfl rfl rfl rfl tx35pa (fun w1 hw => width_w w1) ?_
  refine L_v rfl rfl rfl (V_not rfl rfl rfl) ?_
  refine L_nil ?_
  change J _ _ _ _
  refine J_false rfl ?_
  refine J_skip ?_
  change J _ _ _ _
  refine J_seq ?_
  refine J_region ?_
  refine L_v rfl rfl rfl (V_move rfl rfl) ?_
  refine L_v rfl rfl rfl (V_move rfl rfl) ?_
  refine L_callV rfl rfl rfl rfl rfl rfl tx29pa (fun w1 hw => ssum_d L a n c w1 (SlB.later hw rfl hu) hby hcn (TabK.later hw (by simp) hK) (by omega)) ?_
  refine L_callV rfl rfl rfl rfl rfl rfl tx36pa (fun w1 hw => short_w (shD L) w1) ?_
  refine L_storeW 0 rfl rfl rfl rfl rfl rfl (szd sz26pa (by kernel_rfl)) (all_one (by kernel_rfl)) (by kernel_rfl) ?_
  refine L_v rfl rfl rfl (V_assign rfl rfl) ?_
  refine L_nil ?_
  change J _ _ _ _
  refine J_ret ?_
  change Kret _ _ _ Exit.ret _
  refine ret2 rfl rfl (RV_c 0 rfl rfl Tryd.underlying26 rfl (szd sz26pa (by kernel_rfl))) (RV_t rfl) ?_
  exact fun w' h => ⟨rfl, h.fr⟩

theorem right_w (p : Dg) (i : Nat) (w : World) (hi : i < 256) (hp : DB p) :
    Calls Tryd.prog 67 #[.agg (dgM p).toArray, .int .i64 (i : Int)] w fun e w' => e = .returned (.bool (decide (bitOf (l32 p) i = 1))) ∧ Fr [] w w' := by
  refine calls_of (args := [.agg (dgM p).toArray, .int .i64 (i : Int)]) ([]) ([]) ([]) Tryd.func67 rfl rfl (okW0 _ _ _ _) ?_
  refine J_seq ?_
  refine J_region ?_
  refine L_box rfl rfl rfl rfl rfl (fun b0 => ?_)
  refine L_v rfl rfl rfl (V_assign rfl rfl) ?_
  refine L_nil ?_
  change J _ _ _ _
  refine J_seq ?_
  refine J_region ?_
  refine L_v rfl rfl rfl (V_loadT 0 (vs := dgM p) rfl rfl rfl Tryd.underlying26 rfl sz26pa (by kernel_rfl) (by kernel_rfl)) ?_
  refine L_v rfl rfl rfl (V_move rfl rfl) ?_
  refine L_callV rfl rfl rfl rfl rfl rfl tx89pa (fun w1 hw => bit_w (l32 p) (i : Int) w1 rfl hp) ?_
  refine L_v rfl rfl rfl (V_move rfl rfl) ?_
  refine L_v rfl rfl rfl (V_extract rfl rfl rfl) ?_
  refine L_v rfl rfl rfl (V_extract rfl rfl rfl) ?_
  refine L_v rfl rfl rfl (V_assign rfl rfl) ?_
  refine L_v rfl rfl rfl (V_assign rfl rfl) ?_
  refine L_nil ?_
  change J _ _ _ _
  refine J_seq ?_
  refine J_region ?_
  refine L_v rfl rfl rfl (V_move rfl rfl) ?_
  refine L_v rfl rfl rfl (V_eql rfl rfl rfl rfl) ?_
  refine L_v rfl rfl rfl (V_assign rfl rfl) ?_
  refine L_nil ?_
  change J _ _ _ _
  refine J_ret ?_
  change Kret _ _ _ Exit.ret _
  refine ret1 rfl rfl (RV_t rfl) ?_
  exact fun w' h => ⟨by rw [show bitV (l32 p) (i : Int) = bitOf (l32 p) i from if_pos ⟨by omega, by omega⟩], h.fr⟩

theorem bytes_w (m : Int) (l : List Dg) (s : Sl) (w : World) (f1 : FA w (sbF l s)) (hB : l.length ≤ 1000) :
    Calls Tryd.prog 68 #[.int .u8 m, .slice s.1 l.length s.2] w fun e w' => RetB 5 w (m :: l2s l) (1 + 32 * l.length) id e w' := by
  refine calls_of (args := [.int .u8 m, .slice s.1 l.length s.2]) ([]) ([]) ([sbF l s]) Tryd.func68 rfl rfl (okFW (.cons f1 .nil)) ?_
  refine J_seq ?_
  refine J_region ?_
  refine L_v rfl rfl rfl (V_assign rfl rfl) ?_
  refine L_nil ?_
  change J _ _ _ _
  refine J_seq ?_
  refine J_region ?_
  refine L_v rfl rfl rfl (V_move rfl rfl) ?_
  refine L_buildSlice (vs := [(0, .int .u8 m)]) (l := dg [m]) rfl rfl rfl rfl rfl (bs1b m) (fun b0 => ?_)
  refine L_v rfl rfl rfl (V_assign rfl rfl) ?_
  refine L_nil ?_
  change J _ _ _ _
  refine J_seq ?_
  refine J_seq ?_
  refine J_region ?_
  refine L_v rfl rfl rfl (V_move rfl rfl) ?_
  refine L_v rfl rfl rfl (V_len rfl rfl Tryd.underlying24 rfl) ?_
  refine L_v rfl rfl rfl (V_move rfl rfl) ?_
  refine L_nil ?_
  change J _ _ _ _
  refine J_block ?_
  refine J_loop (X := Nat × Nat × Nat × List Value) (fun y => { env := [(5, .slice (some ⟨y.2.1, 0, none⟩) (1 + 32 * y.1) y.2.2.1), (10, .slice s.1 l.length s.2), (11, .int .i64 (l.length : Int)), (12, .int .i64 (y.1 : Int))], mem := [(y.2.1, row 5 (dg (m :: l2s (l.take y.1)) ++ y.2.2.2))], facts := [sbF l s] }) (fun y => y.1 ≤ l.length ∧ 1 + 32 * y.1 ≤ y.2.2.1 ∧ y.2.2.2.length = y.2.2.1 - (1 + 32 * y.1)) (fun y => l.length - y.1) (0, b0, 1, []) ⟨Nat.zero_le _, Nat.le_refl _, rfl⟩ ⟨⟨rfl, rfl, rfl, rfl, trivial⟩, (by show List.Sublist [(b0, row 5 (dg [m] ++ []))] _; rw [List.append_nil]; exact List.Sublist.refl _), fun f hf => hf, rfl⟩ ?_
  rintro ⟨i, g, c, r⟩ ⟨hi, hc, hr⟩
  simp only at hi hc hr ⊢
  have hlt := l2s_len (l.take i)
  rw [List.length_take] at hlt
  refine J_seq ?_
  refine J_region ?_
  refine L_v rfl rfl rfl (V_lss rfl rfl rfl (by first | exact decide_eq_true (by omega) | exact decide_eq_false (by omega) | rfl)) ?_
  refine L_nil ?_
  change J _ _ _ _
  refine J_seq ?_
  refine J_cond rfl (fun h1 => ?_) (fun h1 => ?_)
  ·
    first | (have h1 := of_decide_eq_true h1) | (have h1 := of_decide_eq_false h1) | skip
    refine J_skip ?_
    change J _ _ _ _
    refine J_seq ?_
    refine J_block ?_
    refine J_seq ?_
    refine J_region ?_
    refine L_v rfl rfl rfl (V_indexC rfl rfl rfl Tryd.underlying24 sz26pa (fun w hw => (hw.fa 0 rfl).1) (by omega) (by omega)) ?_
    refine L_v rfl rfl rfl (V_loadCN (vs := dgM (l.getD i dz)) rfl rfl Tryd.underlying26 rfl (szd sz26pa (by kernel_rfl)) (fun w hw => (hw.fa 0 rfl).1) (by exact Nat.zero_lt_succ _) (rows_v (f := dgM) dz (sz := 31) (fun _ => rfl) (by omega))) ?_
    refine L_alloc rfl rfl rfl rfl z26pa (fun b1 => ?_)
    refine L_storeW 1 rfl rfl rfl rfl rfl rfl (szd sz26pa (by kernel_rfl)) (all_one (by kernel_rfl)) (by kernel_rfl) ?_
    refine L_nil ?_
    change J _ _ _ _
    refine J_region ?_
    refine L_v rfl rfl rfl (V_move rfl rfl) ?_
    refine L_v rfl rfl rfl (V_sliceArr rfl rfl Tryd.underlying26 sz5pa) ?_
    refine L_appO 0 (dg (m :: l2s (l.take i))) r (n := 1 + 32 * i) (m := 32) (n' := 1 + 32 * (i + 1)) (ks' := dg (m :: l2s (l.take (i + 1)))) rfl rfl rfl rfl rfl Tryd.underlying57 el5 rfl (by rw [dg_length, List.length_cons]; omega) (by rw [Nat.mul_one]; exact hr) hc (fun w1 hw => src_bytes' Tryd.underlying57 (SlB.of_mem' hw (i := 1) rfl rfl 32) rfl) (by omega) (cons_app m (by omega)) (by omega) (by omega) (fun g' c' r' hc' hr' => ?_)
    refine L_v rfl rfl rfl (V_assign rfl rfl) ?_
    refine L_nil ?_
    change J _ _ _ _
    refine J_region ?_
    refine L_v rfl rfl rfl (V_add rfl rfl rfl (by first | exact Go.IntWalk.i64_in _ (by omega) | rfl)) ?_
    refine L_v rfl rfl rfl (V_move rfl rfl) ?_
    refine L_nil ?_
    exact ⟨(i + 1, g', c', r'), ⟨by show i + 1 ≤ l.length; omega, hc', by rw [hr', Nat.mul_one]⟩, by show l.length - (i + 1) < l.length - i; omega, ⟨rfl, rfl, rfl, rfl, trivial⟩, List.Sublist.cons_cons _ (List.nil_sublist _), fun f hf => hf, rfl⟩
  ·
    first | (have h1 := of_decide_eq_true h1) | (have h1 := of_decide_eq_false h1) | skip
    refine J_exit ?_
    change J _ _ _ _
    refine J_seq ?_
    refine J_region ?_
    refine L_v rfl rfl rfl (V_move rfl rfl) ?_
    refine L_v rfl rfl rfl (V_assign rfl rfl) ?_
    refine L_nil ?_
    change J _ _ _ _
    refine J_ret ?_
    change Kret _ _ _ Exit.ret _
    refine ret1 rfl rfl (RV_t rfl) ?_
    obtain rfl : i = l.length := by omega
    have e9 : m :: l2s (l.take l.length) = m :: l2s l := by rw [List.take_length]
    have hl9 := l2s_len l
    exact fun w' h => by rw [← e9]; exact RetB.of (l := m :: l2s (l.take l.length)) h rfl 0 rfl rfl (by rw [List.length_cons]; omega) hc hr

end Go.Proofs.YtfdmjjhgdbpfeaaDoor

/- What a proof is summed of at its end; whether it may be for a claim. -/
set_option linter.unusedVariables false
set_option linter.unusedSimpArgs false
set_option maxRecDepth 100000
namespace Go.Proofs.YtfdmjjhgdbpfeaaDoor
open Go.Sx
theorem RetB.len {T : TypeId} {w : World} {l : List Int} {n : Nat} {val : Value → Value} {e : Ending} {w' : World} (h : RetB T w l n val e w') : RetB T w l l.length val e w' := by
  obtain ⟨g, r, c, he, hn, rfl, h1, h2⟩ := h
  exact ⟨g, r, c, he, hn, rfl, h1, h2⟩
theorem fa_nil1 {w : World} {sz : Nat} {v : Value} {cs : List Value} (hv : v = .slice none 0 0) (hc : cs = []) : FA w (factC sz v 0 cs) := by subst hv; subst hc; exact FA.slc (.inl ⟨rfl, rfl, none, 0, rfl⟩)
theorem node_l2 (a b : Dg) : nodeP a b = 1 :: l2s [a, b] := by unfold nodeP l2s; simp
theorem l2_two (m : Int) (a b : Dg) : m :: l2s [a, b] = m :: (l32 a ++ l32 b) := by unfold l2s; simp
theorem slc_row {cx : Cx} {m : Mem} {fs : List Fact} {i b n sz : Nat} {ks : List Value} {T : TypeId} {w : World} (h : OkW cx m fs w) (hi : m[i]? = some (b, row T ks)) (hl : ks.length = n * sz) (c : Nat) : SlC sz w (.slice (some ⟨b, 0, none⟩) n c) n ks := SlC.of_own (r := []) (fz := (0, 0)) h (by rw [List.append_nil]; exact hi) hl c
theorem two_len (a b : Dg) : ([a, b].map dgM).flatten.length = 2 * 32 := rfl
theorem fa_two {cx : Cx} {m : Mem} {fs : List Fact} {i b : Nat} {x y : Dg} {w : World} (h : OkW cx m fs w) (hi : m[i]? = some (b, row 26 (([x, y].map dgM).flatten))) : FA w (sbF [x, y] (some ⟨b, 0, none⟩, 2)) := .slc (slc_row h hi (two_len x y) 2)
theorem sz4pb : (Tryd.prog.info? 4).map (·.size) = some 1 := by kernel_rfl
theorem sz24pb : (Tryd.prog.info? 24).map (·.size) = some 1 := by kernel_rfl
theorem sz26pb : (Tryd.prog.info? 26).map (·.size) = some 32 := by kernel_rfl
theorem sz28pb : (Tryd.prog.info? 28).map (·.size) = some 66 := by kernel_rfl
theorem sz54pb : (Tryd.prog.info? 54).map (·.size) = some 33 := by kernel_rfl
theorem tx68pb : Txt Tryd.prog 68 := txt_of Tryd.func68 rfl (by kernel_rfl)
theorem tx81pb : Txt Tryd.prog 81 := txt_of Tryd.func81 rfl (by kernel_rfl)
theorem tx82pb : Txt Tryd.prog 82 := txt_of Tryd.func82 rfl (by kernel_rfl)
theorem tx87pb : Txt Tryd.prog 87 := txt_of Tryd.func87 rfl (by kernel_rfl)
theorem z28pb : (Tryd.prog.info? 28).bind (·.zero) = some (.agg [.slice none 0 0, .bool false, .int .u8 0, .int .u8 0, .int .u8 0, .int .u8 0, .int .u8 0, .int .u8 0, .int .u8 0, .int .u8 0, .int .u8 0, .int .u8 0, .int .u8 0, .int .u8 0, .int .u8 0, .int .u8 0, .int .u8 0, .int .u8 0, .int .u8 0, .int .u8 0, .int .u8 0, .int .u8 0, .int .u8 0, .int .u8 0, .int .u8 0, .int .u8 0, .int .u8 0, .int .u8 0, .int .u8 0, .int .u8 0, .int .u8 0, .int .u8 0, .int .u8 0, .int .u8 0, .int .u8 0, .int .u8 0, .int .u8 0, .int .u8 0, .int .u8 0, .int .u8 0, .int .u8 0, .int .u8 0, .int .u8 0, .int .u8 0, .int .u8 0, .int .u8 0, .int .u8 0, .int .u8 0, .int .u8 0, .int .u8 0, .int .u8 0, .int .u8 0, .int .u8 0, .int .u8 0, .int .u8 0, .int .u8 0, .int .u8 0, .int .u8 0, .int .u8 0, .int .u8 0, .int .u8 0, .int .u8 0, .int .u8 0, .int .u8 0, .int .u8 0, .int .u8 0].toArray) := by kernel_rfl

theorem start_w (p : Dg) (c : Cm) (x : Pf) (s : Sl) (w : World)  :
    Calls Tryd.prog 65 #[.agg (sdM p c x s).toArray] w fun e w' => RetB 5 w (startP p c x) (startP p c x).length id e w' := by
  refine calls_of (args := [.agg (sdM p c x s).toArray]) ([]) ([]) ([]) Tryd.func65 rfl rfl (okW0 _ _ _ _) ?_
  refine J_seq ?_
  refine J_region ?_
  refine L_box rfl rfl rfl rfl rfl (fun b0 => ?_)
  refine L_v rfl rfl rfl (V_assign rfl rfl) ?_
  refine L_nil ?_
  change J _ _ _ _
  refine J_seq ?_
  refine J_block ?_
  refine J_seq ?_
  refine J_region ?_
  refine L_v rfl rfl rfl (V_fieldAddr rfl rfl Tryd.underlying96 rfl sz54pb rfl) ?_
  refine L_v rfl rfl rfl (V_fieldAddr rfl rfl Tryd.underlying54 rfl sz4pb rfl) ?_
  refine L_v rfl rfl rfl (V_load1 0 rfl rfl rfl Tryd.underlying4 rfl (by rfl)) ?_
  refine L_v rfl rfl rfl (V_assign rfl rfl) ?_
  refine L_nil ?_
  change J _ _ _ _
  refine J_cond rfl (fun h1 => ?_) (fun h1 => ?_)
  ·
    first | (have h1 := of_decide_eq_true h1) | (have h1 := of_decide_eq_false h1) | skip
    refine J_seq ?_
    refine J_region ?_
    refine L_v rfl rfl rfl (V_fieldAddr rfl rfl Tryd.underlying96 rfl sz26pb rfl) ?_
    refine L_v rfl rfl rfl (V_loadT 0 (vs := dgM p) rfl rfl rfl Tryd.underlying26 rfl sz26pb (by kernel_rfl) (by kernel_rfl)) ?_
    refine L_v rfl rfl rfl (V_fieldAddr rfl rfl Tryd.underlying96 rfl sz54pb rfl) ?_
    refine L_v rfl rfl rfl (V_fieldAddr rfl rfl Tryd.underlying54 rfl sz26pb rfl) ?_
    refine L_v rfl rfl rfl (V_loadT 0 (vs := dgM c.2) rfl rfl rfl Tryd.underlying26 rfl sz26pb (by kernel_rfl) (by kernel_rfl)) ?_
    refine L_buildSlice (vs := [(0, .agg (dgM p).toArray), (1, .agg (dgM c.2).toArray)]) (l := ([p, c.2].map dgM).flatten) rfl rfl rfl rfl rfl (bs2d p c.2) (fun b1 => ?_)
    refine L_callB rfl rfl rfl rfl rfl rfl tx68pb (fun w1 hw => bytes_w 0 [p, c.2] (some ⟨b1, 0, none⟩, 2) w1 (fa_two hw (i := 1) rfl) (by simp)) (fun g1 r1 c1 hl1 hc1 hr1 => ?_)
    refine L_v rfl rfl rfl (V_assign rfl rfl) ?_
    refine L_nil ?_
    change J _ _ _ _
    refine J_ret ?_
    change Kret _ _ _ Exit.ret _
    refine ret1 rfl rfl (RV_t rfl) ?_
    exact fun w' h => by rw [st_1 h1]; exact RetB.len (RetB.of h rfl 2 rfl rfl hl1 hc1 hr1)
  ·
    first | (have h1 := of_decide_eq_true h1) | (have h1 := of_decide_eq_false h1) | skip
    refine J_seq ?_
    refine J_region ?_
    refine L_v rfl rfl rfl (V_fieldAddr rfl rfl Tryd.underlying96 rfl sz28pb rfl) ?_
    refine L_v rfl rfl rfl (V_fieldAddr rfl rfl Tryd.underlying28 rfl sz4pb rfl) ?_
    refine L_v rfl rfl rfl (V_load1 0 rfl rfl rfl Tryd.underlying4 rfl (by rfl)) ?_
    refine L_v rfl rfl rfl (V_assign rfl rfl) ?_
    refine L_nil ?_
    change J _ _ _ _
    refine J_cond rfl (fun h2 => ?_) (fun h2 => ?_)
    ·
      first | (have h2 := of_decide_eq_true h2) | (have h2 := of_decide_eq_false h2) | skip
      refine J_seq ?_
      refine J_region ?_
      refine L_v rfl rfl rfl (V_fieldAddr rfl rfl Tryd.underlying96 rfl sz28pb rfl) ?_
      refine L_v rfl rfl rfl (V_fieldAddr rfl rfl Tryd.underlying28 rfl sz26pb rfl) ?_
      refine L_v rfl rfl rfl (V_loadT 0 (vs := dgM x.path) rfl rfl rfl Tryd.underlying26 rfl sz26pb (by kernel_rfl) (by kernel_rfl)) ?_
      refine L_v rfl rfl rfl (V_fieldAddr rfl rfl Tryd.underlying96 rfl sz28pb rfl) ?_
      refine L_v rfl rfl rfl (V_fieldAddr rfl rfl Tryd.underlying28 rfl sz26pb rfl) ?_
      refine L_v rfl rfl rfl (V_loadT 0 (vs := dgM x.val) rfl rfl rfl Tryd.underlying26 rfl sz26pb (by kernel_rfl) (by kernel_rfl)) ?_
      refine L_buildSlice (vs := [(0, .agg (dgM x.path).toArray), (1, .agg (dgM x.val).toArray)]) (l := ([x.path, x.val].map dgM).flatten) rfl rfl rfl rfl rfl (bs2d x.path x.val) (fun b1 => ?_)
      refine L_callB rfl rfl rfl rfl rfl rfl tx68pb (fun w1 hw => bytes_w 0 [x.path, x.val] (some ⟨b1, 0, none⟩, 2) w1 (fa_two hw (i := 1) rfl) (by simp)) (fun g1 r1 c1 hl1 hc1 hr1 => ?_)
      refine L_v rfl rfl rfl (V_assign rfl rfl) ?_
      refine L_nil ?_
      change J _ _ _ _
      refine J_ret ?_
      change Kret _ _ _ Exit.ret _
      refine ret1 rfl rfl (RV_t rfl) ?_
      exact fun w' h => by rw [st_2 (by rw [h1]; decide) h2]; exact RetB.len (RetB.of h rfl 2 rfl rfl hl1 hc1 hr1)
    ·
      first | (have h2 := of_decide_eq_true h2) | (have h2 := of_decide_eq_false h2) | skip
      refine J_skip ?_
      change J _ _ _ _
      refine J_seq ?_
      refine J_region ?_
      refine L_callB rfl rfl rfl rfl rfl rfl tx68pb (fun w1 hw => bytes_w 2 [] (none, 0) w1 (fa_nil1 rfl rfl) (by simp)) (fun g1 r1 c1 hl1 hc1 hr1 => ?_)
      refine L_v rfl rfl rfl (V_assign rfl rfl) ?_
      refine L_nil ?_
      change J _ _ _ _
      refine J_ret ?_
      change Kret _ _ _ Exit.ret _
      refine ret1 rfl rfl (RV_t rfl) ?_
      exact fun w' h => by rw [st_3 (by rw [h1]; decide) (by rw [h2]; decide)]; exact RetB.len (RetB.of h rfl 1 rfl rfl hl1 hc1 hr1)

theorem pmay_w (p : Dg) (c : Cm) (x : Pf) (s : Sl) (w : World) (hp : DB p) (hx : DB x.path) (hB : x.sib.length ≤ 1099511627776) :
    Calls Tryd.prog 62 #[.agg (sdM p c x s).toArray] w fun e w' => e = .returned (.bool (decide (mayPf p c x))) ∧ Fr [] w w' := by
  refine calls_of (args := [.agg (sdM p c x s).toArray]) ([]) ([]) ([]) Tryd.func62 rfl rfl (okW0 _ _ _ _) ?_
  refine J_seq ?_
  refine J_region ?_
  refine L_box rfl rfl rfl rfl rfl (fun b0 => ?_)
  refine L_v rfl rfl rfl (V_assign rfl rfl) ?_
  refine L_nil ?_
  change J _ _ _ _
  refine J_seq ?_
  refine J_region ?_
  refine L_v rfl rfl rfl (V_fieldAddr rfl rfl Tryd.underlying96 rfl sz28pb rfl) ?_
  refine L_v rfl rfl rfl (V_loadT 0 (vs := pfM x s) rfl rfl rfl Tryd.underlying28 rfl sz28pb (by kernel_rfl) (by kernel_rfl)) ?_
  refine L_alloc rfl rfl rfl rfl z28pb (fun b1 => ?_)
  refine L_storeW 1 rfl rfl rfl rfl rfl rfl (szd sz28pb (by kernel_rfl)) (all_one (by kernel_rfl)) (by kernel_rfl) ?_
  refine L_nil ?_
  change J _ _ _ _
  refine J_seq ?_
  refine J_block ?_
  refine J_seq ?_
  refine J_region ?_
  refine L_v rfl rfl rfl (V_fieldAddr rfl rfl Tryd.underlying28 rfl sz24pb rfl) ?_
  refine L_v rfl rfl rfl (V_load1 1 rfl rfl rfl Tryd.underlying24 rfl (by rfl)) ?_
  refine L_v rfl rfl rfl (V_len rfl rfl Tryd.underlying24 rfl) ?_
  refine L_v rfl rfl rfl (V_gtr rfl rfl rfl rfl) ?_
  refine L_v rfl rfl rfl (V_move rfl rfl) ?_
  refine L_split 11 rfl (fun h1 => ?_) (fun h1 => ?_)
  ·
    first | (have h1 := of_decide_eq_true h1) | (have h1 := of_decide_eq_false h1) | skip
    refine L_skip rfl rfl rfl rfl rfl rfl rfl ?_
    refine L_skip rfl rfl rfl rfl rfl rfl rfl ?_
    refine L_skip rfl rfl rfl rfl rfl rfl rfl ?_
    refine L_skip rfl rfl rfl rfl rfl rfl rfl ?_
    refine L_skip rfl rfl rfl rfl rfl rfl rfl ?_
    refine L_skip rfl rfl rfl rfl rfl rfl rfl ?_
    refine L_skip rfl rfl rfl rfl rfl rfl rfl ?_
    refine L_skip rfl rfl rfl rfl rfl rfl rfl ?_
    refine L_skip rfl rfl rfl rfl rfl rfl rfl ?_
    refine L_skip rfl rfl rfl rfl rfl rfl rfl ?_
    refine L_skip rfl rfl rfl rfl rfl rfl rfl ?_
    first | refine L_v rfl rfl rfl (V_pickT rfl rfl rfl) ?_ | refine L_v rfl rfl rfl (V_pickF rfl rfl rfl) ?_
    refine L_v rfl rfl rfl (V_assign rfl rfl) ?_
    refine L_nil ?_
    change J _ _ _ _
    refine J_true rfl ?_
    refine J_seq ?_
    refine J_region ?_
    refine L_v rfl rfl rfl (V_assign rfl rfl) ?_
    refine L_nil ?_
    change J _ _ _ _
    refine J_ret ?_
    change Kret _ _ _ Exit.ret _
    refine ret1 rfl rfl (RV_t rfl) ?_
    exact fun w' h => ⟨congrArg (fun b => Ending.returned (Value.bool b)) (by rw [Bool.eq_iff_iff]; simp only [decide_eq_true_eq, Bool.and_eq_true, Bool.or_eq_true, Bool.not_eq_true', decide_eq_false_iff_not]; unfold mayPf; grind), h.fr⟩
  ·
    first | (have h1 := of_decide_eq_true h1) | (have h1 := of_decide_eq_false h1) | skip
    refine L_wv rfl rfl rfl rfl rfl rfl (V_fieldAddr rfl rfl Tryd.underlying96 rfl sz54pb rfl) ?_
    refine L_wv rfl rfl rfl rfl rfl rfl (V_fieldAddr rfl rfl Tryd.underlying54 rfl sz4pb rfl) ?_
    refine L_wv rfl rfl rfl rfl rfl rfl (V_load1 0 rfl rfl rfl Tryd.underlying4 rfl (by rfl)) ?_
    refine L_wv rfl rfl rfl rfl rfl rfl (V_not rfl rfl rfl) ?_
    refine L_wv rfl rfl rfl rfl rfl rfl (V_move rfl rfl) ?_
    refine L_split 16 rfl (fun h2 => ?_) (fun h2 => ?_)
    ·
      first | (have h2 := of_decide_eq_true h2) | (have h2 := of_decide_eq_false h2) | skip
      refine L_wv rfl rfl rfl rfl rfl rfl (V_fieldAddr rfl rfl Tryd.underlying96 rfl sz54pb rfl) ?_
      refine L_wv rfl rfl rfl rfl rfl rfl (V_fieldAddr rfl rfl Tryd.underlying54 rfl sz26pb rfl) ?_
      refine L_wv rfl rfl rfl rfl rfl rfl (V_loadT 0 (vs := dgM c.2) rfl rfl rfl Tryd.underlying26 rfl sz26pb (by kernel_rfl) (by kernel_rfl)) ?_
      refine L_wv rfl rfl rfl rfl rfl rfl (V_buildE (v := .agg (dgM dz).toArray) rfl rfl (fun w => by kernel_rfl)) ?_
      refine L_wv rfl rfl rfl rfl rfl rfl (V_neAgg rfl rfl rfl (by kernel_rfl : Tryd.prog.eqGuardType Tryd.prog.depth 26 = false) (fun w => eqDgDO _ _ w) decide_not.symm) ?_
      first | refine L_wv rfl rfl rfl rfl rfl rfl (V_pickT rfl rfl rfl) ?_ | refine L_wv rfl rfl rfl rfl rfl rfl (V_pickF rfl rfl rfl) ?_
      first | refine L_v rfl rfl rfl (V_pickT rfl rfl rfl) ?_ | refine L_v rfl rfl rfl (V_pickF rfl rfl rfl) ?_
      refine L_v rfl rfl rfl (V_assign rfl rfl) ?_
      refine L_nil ?_
      change J _ _ _ _
      refine J_cond rfl (fun h3 => ?_) (fun h3 => ?_)
      ·
        first | (have h3 := of_decide_eq_true h3) | (have h3 := of_decide_eq_false h3) | skip
        refine J_seq ?_
        refine J_region ?_
        refine L_v rfl rfl rfl (V_assign rfl rfl) ?_
        refine L_nil ?_
        change J _ _ _ _
        refine J_ret ?_
        change Kret _ _ _ Exit.ret _
        refine ret1 rfl rfl (RV_t rfl) ?_
        exact fun w' h => ⟨congrArg (fun b => Ending.returned (Value.bool b)) (by rw [Bool.eq_iff_iff]; simp only [decide_eq_true_eq, Bool.and_eq_true, Bool.or_eq_true, Bool.not_eq_true', decide_eq_false_iff_not]; unfold mayPf; grind), h.fr⟩
      ·
        first | (have h3 := of_decide_eq_true h3) | (have h3 := of_decide_eq_false h3) | skip
        refine J_seq ?_
        refine J_region ?_
        refine L_v rfl rfl rfl (V_fieldAddr rfl rfl Tryd.underlying28 rfl sz4pb rfl) ?_
        refine L_v rfl rfl rfl (V_load1 1 rfl rfl rfl Tryd.underlying4 rfl (by rfl)) ?_
        refine L_v rfl rfl rfl (V_not rfl rfl rfl) ?_
        refine L_v rfl rfl rfl (V_assign rfl rfl) ?_
        refine L_nil ?_
        change J _ _ _ _
        refine J_cond rfl (fun h4 => ?_) (fun h4 => ?_)
        ·
          first | (have h4 := of_decide_eq_true h4) | (have h4 := of_decide_eq_false h4) | skip
          refine J_seq ?_
          refine J_region ?_
          refine L_v rfl rfl rfl (V_fieldAddr rfl rfl Tryd.underlying28 rfl sz26pb rfl) ?_
          refine L_v rfl rfl rfl (V_loadT 1 (vs := dgM x.path) rfl rfl rfl Tryd.underlying26 rfl sz26pb (by kernel_rfl) (by kernel_rfl)) ?_
          refine L_v rfl rfl rfl (V_buildE (v := .agg (dgM dz).toArray) rfl rfl (fun w => by kernel_rfl)) ?_
          refine L_v rfl rfl rfl (V_eqAgg rfl rfl rfl (by kernel_rfl : Tryd.prog.eqGuardType Tryd.prog.depth 26 = false) (fun w => eqDgDO _ _ w) rfl) ?_
          refine L_v rfl rfl rfl (V_move rfl rfl) ?_
          apply L_and 4 32 37
          · rfl
          · rfl
          · rfl
          · rfl
          · rfl
          · rfl
          · rfl
          · kernel_rfl
          · intro hb5 _ _ hk5
            refine L_wv rfl rfl rfl rfl rfl rfl (V_fieldAddr rfl rfl Tryd.underlying28 rfl sz26pb rfl) ?_
            refine L_wv rfl rfl rfl rfl rfl rfl (V_loadT 1 (vs := dgM x.val) rfl rfl rfl Tryd.underlying26 rfl sz26pb (by kernel_rfl) (by kernel_rfl)) ?_
            refine L_wv rfl rfl rfl rfl rfl rfl (V_buildE (v := .agg (dgM dz).toArray) rfl rfl (fun w => by kernel_rfl)) ?_
            refine L_wv rfl rfl rfl rfl rfl rfl (V_eqAgg rfl rfl rfl (by kernel_rfl : Tryd.prog.eqGuardType Tryd.prog.depth 26 = false) (fun w => eqDgDO _ _ w) rfl) ?_
            exact hk5 _ ⟨rfl, rfl, rfl, rfl, ext_cut 4 (by kernel_rfl) (by kernel_rfl)⟩
          refine L_v rfl rfl rfl (V_assign rfl rfl) ?_
          refine L_nil ?_
          change J _ _ _ _
          refine J_ret ?_
          change Kret _ _ _ Exit.ret _
          refine ret1 rfl rfl (RV_t rfl) ?_
          exact fun w' h => ⟨congrArg (fun b => Ending.returned (Value.bool b)) (by rw [Bool.eq_iff_iff]; simp only [decide_eq_true_eq, Bool.and_eq_true, Bool.or_eq_true, Bool.not_eq_true', decide_eq_false_iff_not]; unfold mayPf; grind), h.fr⟩
        ·
          first | (have h4 := of_decide_eq_true h4) | (have h4 := of_decide_eq_false h4) | skip
          refine J_skip ?_
          change J _ _ _ _
          refine J_seq ?_
          refine J_regionQ rfl (by kernel_rfl) ?_
          refine LQ_v rfl rfl rfl (V_fieldAddr rfl rfl Tryd.underlying96 rfl sz54pb rfl) ?_
          refine LQ_v rfl rfl rfl (V_fieldAddr rfl rfl Tryd.underlying54 rfl sz4pb rfl) ?_
          refine LQ_v rfl rfl rfl (V_load1 0 rfl rfl rfl Tryd.underlying4 rfl (by rfl)) ?_
          refine LQ_v rfl rfl rfl (V_not rfl rfl rfl) ?_
          refine LQ_v rfl rfl rfl (V_move rfl rfl) ?_
          apply LQ_and 5 42 48
          · rfl
          · rfl
          · rfl
          · rfl
          · rfl
          · rfl
          · rfl
          · kernel_rfl
          · intro hb5 _ _ hk5
            refine LQ_wv rfl rfl rfl rfl rfl rfl (V_fieldAddr rfl rfl Tryd.underlying28 rfl sz26pb rfl) ?_
            refine LQ_wv rfl rfl rfl rfl rfl rfl (V_loadT 1 (vs := dgM x.path) rfl rfl rfl Tryd.underlying26 rfl sz26pb (by kernel_rfl) (by kernel_rfl)) ?_
            refine LQ_wv rfl rfl rfl rfl rfl rfl (V_fieldAddr rfl rfl Tryd.underlying96 rfl sz26pb rfl) ?_
            refine LQ_wv rfl rfl rfl rfl rfl rfl (V_loadT 0 (vs := dgM p) rfl rfl rfl Tryd.underlying26 rfl sz26pb (by kernel_rfl) (by kernel_rfl)) ?_
            refine LQ_wv rfl rfl rfl rfl rfl rfl (V_neAgg rfl rfl rfl (by kernel_rfl : Tryd.prog.eqGuardType Tryd.prog.depth 26 = false) (fun w => eqDgDO _ _ w) decide_not.symm) ?_
            exact hk5 _ ⟨rfl, rfl, ext_cut 5 (by kernel_rfl) (by kernel_rfl)⟩
          refine LQ_v rfl rfl rfl (V_move rfl rfl) ?_
          apply LQ_and 9 49 59
          · rfl
          · rfl
          · rfl
          · rfl
          · rfl
          · rfl
          · rfl
          · kernel_rfl
          · intro hb6 _ _ hk6
            refine LQ_wv rfl rfl rfl rfl rfl rfl (V_fieldAddr rfl rfl Tryd.underlying96 rfl sz26pb rfl) ?_
            refine LQ_wv rfl rfl rfl rfl rfl rfl (V_loadT 0 (vs := dgM p) rfl rfl rfl Tryd.underlying26 rfl sz26pb (by kernel_rfl) (by kernel_rfl)) ?_
            refine LQ_wv rfl rfl rfl rfl rfl rfl (V_fieldAddr rfl rfl Tryd.underlying28 rfl sz26pb rfl) ?_
            refine LQ_wv rfl rfl rfl rfl rfl rfl (V_loadT 1 (vs := dgM x.path) rfl rfl rfl Tryd.underlying26 rfl sz26pb (by kernel_rfl) (by kernel_rfl)) ?_
            refine LQ_wcallV rfl rfl rfl rfl rfl rfl rfl rfl rfl tx87pb (fun w1 hw => common_w (l32 p) (l32 x.path) w1 rfl rfl hp hx) ?_
            refine LQ_wv rfl rfl rfl rfl rfl rfl (V_fieldAddr rfl rfl Tryd.underlying28 rfl sz24pb rfl) ?_
            refine LQ_wv rfl rfl rfl rfl rfl rfl (V_load1 1 rfl rfl rfl Tryd.underlying24 rfl (by rfl)) ?_
            refine LQ_wv rfl rfl rfl rfl rfl rfl (V_len rfl rfl Tryd.underlying24 rfl) ?_
            refine LQ_wv rfl rfl rfl rfl rfl rfl (V_geq rfl rfl rfl rfl) ?_
            exact hk6 _ ⟨rfl, rfl, ext_cut 9 (by kernel_rfl) (by kernel_rfl)⟩
          refine LQ_v rfl rfl rfl (V_assign rfl rfl) ?_
          refine LQ_nil ?_
          change J _ _ _ _
          refine J_ret ?_
          change Kret _ _ _ Exit.ret _
          refine ret1 rfl rfl (RV_t rfl) ?_
          exact fun w' h => ⟨congrArg (fun b => Ending.returned (Value.bool b)) (by rw [Bool.eq_iff_iff]; simp only [decide_eq_true_eq, Bool.and_eq_true, Bool.or_eq_true, Bool.not_eq_true', decide_eq_false_iff_not]; unfold mayPf; grind), h.fr⟩
    ·
      first | (have h2 := of_decide_eq_true h2) | (have h2 := of_decide_eq_false h2) | skip
      refine L_skip rfl rfl rfl rfl rfl rfl rfl ?_
      refine L_skip rfl rfl rfl rfl rfl rfl rfl ?_
      refine L_skip rfl rfl rfl rfl rfl rfl rfl ?_
      refine L_skip rfl rfl rfl rfl rfl rfl rfl ?_
      refine L_skip rfl rfl rfl rfl rfl rfl rfl ?_
      first | refine L_wv rfl rfl rfl rfl rfl rfl (V_pickT rfl rfl rfl) ?_ | refine L_wv rfl rfl rfl rfl rfl rfl (V_pickF rfl rfl rfl) ?_
      first | refine L_v rfl rfl rfl (V_pickT rfl rfl rfl) ?_ | refine L_v rfl rfl rfl (V_pickF rfl rfl rfl) ?_
      refine L_v rfl rfl rfl (V_assign rfl rfl) ?_
      refine L_nil ?_
      change J _ _ _ _
      refine J_false rfl ?_
      refine J_seq ?_
      refine J_region ?_
      refine L_v rfl rfl rfl (V_fieldAddr rfl rfl Tryd.underlying28 rfl sz4pb rfl) ?_
      refine L_v rfl rfl rfl (V_load1 1 rfl rfl rfl Tryd.underlying4 rfl (by rfl)) ?_
      refine L_v rfl rfl rfl (V_not rfl rfl rfl) ?_
      refine L_v rfl rfl rfl (V_assign rfl rfl) ?_
      refine L_nil ?_
      change J _ _ _ _
      refine J_cond rfl (fun h3 => ?_) (fun h3 => ?_)
      ·
        first | (have h3 := of_decide_eq_true h3) | (have h3 := of_decide_eq_false h3) | skip
        refine J_seq ?_
        refine J_region ?_
        refine L_v rfl rfl rfl (V_fieldAddr rfl rfl Tryd.underlying28 rfl sz26pb rfl) ?_
        refine L_v rfl rfl rfl (V_loadT 1 (vs := dgM x.path) rfl rfl rfl Tryd.underlying26 rfl sz26pb (by kernel_rfl) (by kernel_rfl)) ?_
        refine L_v rfl rfl rfl (V_buildE (v := .agg (dgM dz).toArray) rfl rfl (fun w => by kernel_rfl)) ?_
        refine L_v rfl rfl rfl (V_eqAgg rfl rfl rfl (by kernel_rfl : Tryd.prog.eqGuardType Tryd.prog.depth 26 = false) (fun w => eqDgDO _ _ w) rfl) ?_
        refine L_v rfl rfl rfl (V_move rfl rfl) ?_
        apply L_and 4 32 37
        · rfl
        · rfl
        · rfl
        · rfl
        · rfl
        · rfl
        · rfl
        · kernel_rfl
        · intro hb4 _ _ hk4
          refine L_wv rfl rfl rfl rfl rfl rfl (V_fieldAddr rfl rfl Tryd.underlying28 rfl sz26pb rfl) ?_
          refine L_wv rfl rfl rfl rfl rfl rfl (V_loadT 1 (vs := dgM x.val) rfl rfl rfl Tryd.underlying26 rfl sz26pb (by kernel_rfl) (by kernel_rfl)) ?_
          refine L_wv rfl rfl rfl rfl rfl rfl (V_buildE (v := .agg (dgM dz).toArray) rfl rfl (fun w => by kernel_rfl)) ?_
          refine L_wv rfl rfl rfl rfl rfl rfl (V_eqAgg rfl rfl rfl (by kernel_rfl : Tryd.prog.eqGuardType Tryd.prog.depth 26 = false) (fun w => eqDgDO _ _ w) rfl) ?_
          exact hk4 _ ⟨rfl, rfl, rfl, rfl, ext_cut 4 (by kernel_rfl) (by kernel_rfl)⟩
        refine L_v rfl rfl rfl (V_assign rfl rfl) ?_
        refine L_nil ?_
        change J _ _ _ _
        refine J_ret ?_
        change Kret _ _ _ Exit.ret _
        refine ret1 rfl rfl (RV_t rfl) ?_
        exact fun w' h => ⟨congrArg (fun b => Ending.returned (Value.bool b)) (by rw [Bool.eq_iff_iff]; simp only [decide_eq_true_eq, Bool.and_eq_true, Bool.or_eq_true, Bool.not_eq_true', decide_eq_false_iff_not]; unfold mayPf; grind), h.fr⟩
      ·
        first | (have h3 := of_decide_eq_true h3) | (have h3 := of_decide_eq_false h3) | skip
        refine J_skip ?_
        change J _ _ _ _
        refine J_seq ?_
        refine J_regionQ rfl (by kernel_rfl) ?_
        refine LQ_v rfl rfl rfl (V_fieldAddr rfl rfl Tryd.underlying96 rfl sz54pb rfl) ?_
        refine LQ_v rfl rfl rfl (V_fieldAddr rfl rfl Tryd.underlying54 rfl sz4pb rfl) ?_
        refine LQ_v rfl rfl rfl (V_load1 0 rfl rfl rfl Tryd.underlying4 rfl (by rfl)) ?_
        refine LQ_v rfl rfl rfl (V_not rfl rfl rfl) ?_
        refine LQ_v rfl rfl rfl (V_move rfl rfl) ?_
        apply LQ_and 5 42 48
        · rfl
        · rfl
        · rfl
        · rfl
        · rfl
        · rfl
        · rfl
        · kernel_rfl
        · intro hb4 _ _ hk4
          refine LQ_wv rfl rfl rfl rfl rfl rfl (V_fieldAddr rfl rfl Tryd.underlying28 rfl sz26pb rfl) ?_
          refine LQ_wv rfl rfl rfl rfl rfl rfl (V_loadT 1 (vs := dgM x.path) rfl rfl rfl Tryd.underlying26 rfl sz26pb (by kernel_rfl) (by kernel_rfl)) ?_
          refine LQ_wv rfl rfl rfl rfl rfl rfl (V_fieldAddr rfl rfl Tryd.underlying96 rfl sz26pb rfl) ?_
          refine LQ_wv rfl rfl rfl rfl rfl rfl (V_loadT 0 (vs := dgM p) rfl rfl rfl Tryd.underlying26 rfl sz26pb (by kernel_rfl) (by kernel_rfl)) ?_
          refine LQ_wv rfl rfl rfl rfl rfl rfl (V_neAgg rfl rfl rfl (by kernel_rfl : Tryd.prog.eqGuardType Tryd.prog.depth 26 = false) (fun w => eqDgDO _ _ w) decide_not.symm) ?_
          exact hk4 _ ⟨rfl, rfl, ext_cut 5 (by kernel_rfl) (by kernel_rfl)⟩
        refine LQ_v rfl rfl rfl (V_move rfl rfl) ?_
        apply LQ_and 9 49 59
        · rfl
        · rfl
        · rfl
        · rfl
        · rfl
        · rfl
        · rfl
        · kernel_rfl
        · intro hb5 _ _ hk5
          refine LQ_wv rfl rfl rfl rfl rfl rfl (V_fieldAddr rfl rfl Tryd.underlying96 rfl sz26pb rfl) ?_
          refine LQ_wv rfl rfl rfl rfl rfl rfl (V_loadT 0 (vs := dgM p) rfl rfl rfl Tryd.underlying26 rfl sz26pb (by kernel_rfl) (by kernel_rfl)) ?_
          refine LQ_wv rfl rfl rfl rfl rfl rfl (V_fieldAddr rfl rfl Tryd.underlying28 rfl sz26pb rfl) ?_
          refine LQ_wv rfl rfl rfl rfl rfl rfl (V_loadT 1 (vs := dgM x.path) rfl rfl rfl Tryd.underlying26 rfl sz26pb (by kernel_rfl) (by kernel_rfl)) ?_
          refine LQ_wcallV rfl rfl rfl rfl rfl rfl rfl rfl rfl tx87pb (fun w1 hw => common_w (l32 p) (l32 x.path) w1 rfl rfl hp hx) ?_
          refine LQ_wv rfl rfl rfl rfl rfl rfl (V_fieldAddr rfl rfl Tryd.underlying28 rfl sz24pb rfl) ?_
          refine LQ_wv rfl rfl rfl rfl rfl rfl (V_load1 1 rfl rfl rfl Tryd.underlying24 rfl (by rfl)) ?_
          refine LQ_wv rfl rfl rfl rfl rfl rfl (V_len rfl rfl Tryd.underlying24 rfl) ?_
          refine LQ_wv rfl rfl rfl rfl rfl rfl (V_geq rfl rfl rfl rfl) ?_
          exact hk5 _ ⟨rfl, rfl, ext_cut 9 (by kernel_rfl) (by kernel_rfl)⟩
        refine LQ_v rfl rfl rfl (V_assign rfl rfl) ?_
        refine LQ_nil ?_
        change J _ _ _ _
        refine J_ret ?_
        change Kret _ _ _ Exit.ret _
        refine ret1 rfl rfl (RV_t rfl) ?_
        exact fun w' h => ⟨congrArg (fun b => Ending.returned (Value.bool b)) (by rw [Bool.eq_iff_iff]; simp only [decide_eq_true_eq, Bool.and_eq_true, Bool.or_eq_true, Bool.not_eq_true', decide_eq_false_iff_not]; unfold mayPf; grind), h.fr⟩

theorem plain_w (x : Pf) (s : Sl) (w : World) :
    Calls Tryd.prog 81 #[.agg (pfM x s).toArray] w fun e w' => e = .returned (.bool (decide (x.other = true ∨ x.path = dz ∧ x.val = dz))) ∧ Fr [] w w' := by
  refine calls_of (args := [.agg (pfM x s).toArray]) ([]) ([]) ([]) Tryd.func81 rfl rfl (okW0 _ _ _ _) ?_
  refine J_seq ?_
  refine J_region ?_
  refine L_box rfl rfl rfl rfl rfl (fun b0 => ?_)
  refine L_v rfl rfl rfl (V_assign rfl rfl) ?_
  refine L_nil ?_
  change J _ _ _ _
  refine J_seq ?_
  refine J_region ?_
  refine L_v rfl rfl rfl (V_fieldAddr rfl rfl Tryd.underlying28 rfl sz4pb rfl) ?_
  refine L_v rfl rfl rfl (V_load1 0 rfl rfl rfl Tryd.underlying4 rfl (by rfl)) ?_
  refine L_v rfl rfl rfl (V_move rfl rfl) ?_
  refine L_split 5 rfl (fun h1 => ?_) (fun h1 => ?_)
  ·
    first | (have h1 := of_decide_eq_true h1) | (have h1 := of_decide_eq_false h1) | skip
    refine L_skip rfl rfl rfl rfl rfl rfl rfl ?_
    refine L_skip rfl rfl rfl rfl rfl rfl rfl ?_
    refine L_skip rfl rfl rfl rfl rfl rfl rfl ?_
    refine L_skip rfl rfl rfl rfl rfl rfl rfl ?_
    refine L_skip rfl rfl rfl rfl rfl rfl rfl ?_
    refine L_skip rfl rfl rfl rfl rfl rfl rfl ?_
    refine L_skip rfl rfl rfl rfl rfl rfl rfl ?_
    refine L_skip rfl rfl rfl rfl rfl rfl rfl ?_
    refine L_skip rfl rfl rfl rfl rfl rfl rfl ?_
    refine L_skip rfl rfl rfl rfl rfl rfl rfl ?_
    first | refine L_v rfl rfl rfl (V_pickT rfl rfl rfl) ?_ | refine L_v rfl rfl rfl (V_pickF rfl rfl rfl) ?_
    refine L_v rfl rfl rfl (V_assign rfl rfl) ?_
    refine L_nil ?_
    change J _ _ _ _
    refine J_ret ?_
    change Kret _ _ _ Exit.ret _
    refine ret1 rfl rfl (RV_t rfl) ?_
    exact fun w' h => ⟨congrArg (fun b => Ending.returned (Value.bool b)) (by rw [Bool.eq_iff_iff]; simp only [decide_eq_true_eq, Bool.and_eq_true, Bool.or_eq_true, Bool.not_eq_true', decide_eq_false_iff_not]; grind), h.fr⟩
  ·
    first | (have h1 := of_decide_eq_true h1) | (have h1 := of_decide_eq_false h1) | skip
    refine L_wv rfl rfl rfl rfl rfl rfl (V_fieldAddr rfl rfl Tryd.underlying28 rfl sz26pb rfl) ?_
    refine L_wv rfl rfl rfl rfl rfl rfl (V_loadT 0 (vs := dgM x.path) rfl rfl rfl Tryd.underlying26 rfl sz26pb (by kernel_rfl) (by kernel_rfl)) ?_
    refine L_wv rfl rfl rfl rfl rfl rfl (V_buildE (v := .agg (dgM dz).toArray) rfl rfl (fun w => by kernel_rfl)) ?_
    refine L_wv rfl rfl rfl rfl rfl rfl (V_eqAgg rfl rfl rfl (by kernel_rfl : Tryd.prog.eqGuardType Tryd.prog.depth 26 = false) (fun w => eqDgDO _ _ w) rfl) ?_
    refine L_wv rfl rfl rfl rfl rfl rfl (V_move rfl rfl) ?_
    refine L_split 10 rfl (fun h2 => ?_) (fun h2 => ?_)
    ·
      first | (have h2 := of_decide_eq_true h2) | (have h2 := of_decide_eq_false h2) | skip
      refine L_wv rfl rfl rfl rfl rfl rfl (V_fieldAddr rfl rfl Tryd.underlying28 rfl sz26pb rfl) ?_
      refine L_wv rfl rfl rfl rfl rfl rfl (V_loadT 0 (vs := dgM x.val) rfl rfl rfl Tryd.underlying26 rfl sz26pb (by kernel_rfl) (by kernel_rfl)) ?_
      refine L_wv rfl rfl rfl rfl rfl rfl (V_buildE (v := .agg (dgM dz).toArray) rfl rfl (fun w => by kernel_rfl)) ?_
      refine L_wv rfl rfl rfl rfl rfl rfl (V_eqAgg rfl rfl rfl (by kernel_rfl : Tryd.prog.eqGuardType Tryd.prog.depth 26 = false) (fun w => eqDgDO _ _ w) rfl) ?_
      first | refine L_wv rfl rfl rfl rfl rfl rfl (V_pickT rfl rfl rfl) ?_ | refine L_wv rfl rfl rfl rfl rfl rfl (V_pickF rfl rfl rfl) ?_
      first | refine L_v rfl rfl rfl (V_pickT rfl rfl rfl) ?_ | refine L_v rfl rfl rfl (V_pickF rfl rfl rfl) ?_
      refine L_v rfl rfl rfl (V_assign rfl rfl) ?_
      refine L_nil ?_
      change J _ _ _ _
      refine J_ret ?_
      change Kret _ _ _ Exit.ret _
      refine ret1 rfl rfl (RV_t rfl) ?_
      exact fun w' h => ⟨congrArg (fun b => Ending.returned (Value.bool b)) (by rw [Bool.eq_iff_iff]; simp only [decide_eq_true_eq, Bool.and_eq_true, Bool.or_eq_true, Bool.not_eq_true', decide_eq_false_iff_not]; grind), h.fr⟩
    ·
      first | (have h2 := of_decide_eq_true h2) | (have h2 := of_decide_eq_false h2) | skip
      refine L_skip rfl rfl rfl rfl rfl rfl rfl ?_
      refine L_skip rfl rfl rfl rfl rfl rfl rfl ?_
      refine L_skip rfl rfl rfl rfl rfl rfl rfl ?_
      refine L_skip rfl rfl rfl rfl rfl rfl rfl ?_
      first | refine L_wv rfl rfl rfl rfl rfl rfl (V_pickT rfl rfl rfl) ?_ | refine L_wv rfl rfl rfl rfl rfl rfl (V_pickF rfl rfl rfl) ?_
      first | refine L_v rfl rfl rfl (V_pickT rfl rfl rfl) ?_ | refine L_v rfl rfl rfl (V_pickF rfl rfl rfl) ?_
      refine L_v rfl rfl rfl (V_assign rfl rfl) ?_
      refine L_nil ?_
      change J _ _ _ _
      refine J_ret ?_
      change Kret _ _ _ Exit.ret _
      refine ret1 rfl rfl (RV_t rfl) ?_
      exact fun w' h => ⟨congrArg (fun b => Ending.returned (Value.bool b)) (by rw [Bool.eq_iff_iff]; simp only [decide_eq_true_eq, Bool.and_eq_true, Bool.or_eq_true, Bool.not_eq_true', decide_eq_false_iff_not]; grind), h.fr⟩

theorem rpmay_w (p : Dg) (c : Cm) (x : Pf) (s : Sl) (w : World) (hp : DB p) (hx : DB x.path) (hB : x.sib.length ≤ 1099511627776) :
    Calls Tryd.prog 54 #[.agg (dgM p).toArray, .agg (cmM c).toArray, .agg (pfM x s).toArray] w fun e w' => e = .returned (.bool (decide ((x.sib.length ≤ 256 ∧ ¬ (c.1 = true ∧ x.other = true)) ∧ (x.other = true ∨ x.path = dz ∧ x.val = dz) ∧ (x.other = true → x.path ≠ p ∧ (x.sib.length : Int) ≤ com (l32 p) (l32 x.path))))) ∧ Fr [] w w' := by
  refine calls_of (args := [.agg (dgM p).toArray, .agg (cmM c).toArray, .agg (pfM x s).toArray]) ([]) ([]) ([]) Tryd.func54 rfl rfl (okW0 _ _ _ _) ?_
  refine J_seq ?_
  refine J_region ?_
  refine L_box rfl rfl rfl rfl rfl (fun b0 => ?_)
  refine L_box rfl rfl rfl rfl rfl (fun b1 => ?_)
  refine L_box rfl rfl rfl rfl rfl (fun b2 => ?_)
  refine L_v rfl rfl rfl (V_assign rfl rfl) ?_
  refine L_nil ?_
  change J _ _ _ _
  refine J_seq ?_
  refine J_seq ?_
  refine J_region ?_
  refine L_v rfl rfl rfl (V_fieldAddr rfl rfl Tryd.underlying28 rfl sz24pb rfl) ?_
  refine L_v rfl rfl rfl (V_load1 2 rfl rfl rfl Tryd.underlying24 rfl (by rfl)) ?_
  refine L_v rfl rfl rfl (V_len rfl rfl Tryd.underlying24 rfl) ?_
  refine L_v rfl rfl rfl (V_gtr rfl rfl rfl rfl) ?_
  refine L_v rfl rfl rfl (V_move rfl rfl) ?_
  refine L_split 11 rfl (fun h1 => ?_) (fun h1 => ?_)
  ·
    first | (have h1 := of_decide_eq_true h1) | (have h1 := of_decide_eq_false h1) | skip
    refine L_skip rfl rfl rfl rfl rfl rfl rfl ?_
    refine L_skip rfl rfl rfl rfl rfl rfl rfl ?_
    refine L_skip rfl rfl rfl rfl rfl rfl rfl ?_
    refine L_skip rfl rfl rfl rfl rfl rfl rfl ?_
    refine L_skip rfl rfl rfl rfl rfl rfl rfl ?_
    refine L_skip rfl rfl rfl rfl rfl rfl rfl ?_
    first | refine L_v rfl rfl rfl (V_pickT rfl rfl rfl) ?_ | refine L_v rfl rfl rfl (V_pickF rfl rfl rfl) ?_
    refine L_v rfl rfl rfl (V_move rfl rfl) ?_
    apply L_or 3 19 23
    · rfl
    · rfl
    · rfl
    · rfl
    · rfl
    · rfl
    · rfl
    · kernel_rfl
    · intro hb2 _ _ hk2
      refine L_wv rfl rfl rfl rfl rfl rfl (V_loadT 2 (vs := pfM x s) rfl rfl rfl Tryd.underlying28 rfl sz28pb (by kernel_rfl) (by kernel_rfl)) ?_
      refine L_wcallV rfl rfl rfl rfl rfl rfl rfl rfl rfl tx81pb (fun w1 hw => plain_w x s w1) ?_
      refine L_wv rfl rfl rfl rfl rfl rfl (V_not rfl rfl rfl) ?_
      exact hk2 _ ⟨rfl, rfl, rfl, rfl, ext_cut 3 (by kernel_rfl) (by kernel_rfl)⟩
    refine L_nil ?_
    change J _ _ _ _
    refine J_cond rfl (fun h3 => ?_) (fun h3 => ?_)
    ·
      first | (have h3 := of_decide_eq_true h3) | (have h3 := of_decide_eq_false h3) | skip
      refine J_seq ?_
      refine J_region ?_
      refine L_v rfl rfl rfl (V_assign rfl rfl) ?_
      refine L_nil ?_
      change J _ _ _ _
      refine J_ret ?_
      change Kret _ _ _ Exit.ret _
      refine ret1 rfl rfl (RV_t rfl) ?_
      exact fun w' h => ⟨congrArg (fun b => Ending.returned (Value.bool b)) (by rw [Bool.eq_iff_iff]; simp only [decide_eq_true_eq, Bool.and_eq_true, Bool.or_eq_true, Bool.not_eq_true', decide_eq_false_iff_not]; grind), h.fr⟩
    ·
      first | (have h3 := of_decide_eq_true h3) | (have h3 := of_decide_eq_false h3) | skip
      refine J_skip ?_
      change J _ _ _ _
      refine J_seq ?_
      refine J_regionQ rfl (by kernel_rfl) ?_
      refine LQ_v rfl rfl rfl (V_fieldAddr rfl rfl Tryd.underlying28 rfl sz4pb rfl) ?_
      refine LQ_v rfl rfl rfl (V_load1 2 rfl rfl rfl Tryd.underlying4 rfl (by rfl)) ?_
      refine LQ_v rfl rfl rfl (V_not rfl rfl rfl) ?_
      refine LQ_v rfl rfl rfl (V_move rfl rfl) ?_
      refine LQ_split 27 rfl (fun h4 => ?_) (fun h4 => ?_)
      ·
        first | (have h4 := of_decide_eq_true h4) | (have h4 := of_decide_eq_false h4) | skip
        refine LQ_skip rfl rfl rfl rfl rfl rfl rfl ?_
        refine LQ_skip rfl rfl rfl rfl rfl rfl rfl ?_
        refine LQ_skip rfl rfl rfl rfl rfl rfl rfl ?_
        refine LQ_skip rfl rfl rfl rfl rfl rfl rfl ?_
        refine LQ_skip rfl rfl rfl rfl rfl rfl rfl ?_
        refine LQ_skip rfl rfl rfl rfl rfl rfl rfl ?_
        refine LQ_skip rfl rfl rfl rfl rfl rfl rfl ?_
        refine LQ_skip rfl rfl rfl rfl rfl rfl rfl ?_
        refine LQ_skip rfl rfl rfl rfl rfl rfl rfl ?_
        refine LQ_skip rfl rfl rfl rfl rfl rfl rfl ?_
        refine LQ_skip rfl rfl rfl rfl rfl rfl rfl ?_
        refine LQ_skip rfl rfl rfl rfl rfl rfl rfl ?_
        refine LQ_skip rfl rfl rfl rfl rfl rfl rfl ?_
        refine LQ_skip rfl rfl rfl rfl rfl rfl rfl ?_
        first | refine LQ_v rfl rfl rfl (V_pickT rfl rfl rfl) ?_ | refine LQ_v rfl rfl rfl (V_pickF rfl rfl rfl) ?_
        refine LQ_v rfl rfl rfl (V_assign rfl rfl) ?_
        refine LQ_nil ?_
        change J _ _ _ _
        refine J_ret ?_
        change Kret _ _ _ Exit.ret _
        refine ret1 rfl rfl (RV_t rfl) ?_
        exact fun w' h => ⟨congrArg (fun b => Ending.returned (Value.bool b)) (by rw [Bool.eq_iff_iff]; simp only [decide_eq_true_eq, Bool.and_eq_true, Bool.or_eq_true, Bool.not_eq_true', decide_eq_false_iff_not]; grind), h.fr⟩
      ·
        first | (have h4 := of_decide_eq_true h4) | (have h4 := of_decide_eq_false h4) | skip
        refine LQ_wv rfl rfl rfl rfl rfl rfl (V_fieldAddr rfl rfl Tryd.underlying28 rfl sz26pb rfl) ?_
        refine LQ_wv rfl rfl rfl rfl rfl rfl (V_loadT 2 (vs := dgM x.path) rfl rfl rfl Tryd.underlying26 rfl sz26pb (by kernel_rfl) (by kernel_rfl)) ?_
        refine LQ_wv rfl rfl rfl rfl rfl rfl (V_loadT 0 (vs := dgM p) rfl rfl rfl Tryd.underlying26 rfl sz26pb (by kernel_rfl) (by kernel_rfl)) ?_
        refine LQ_wv rfl rfl rfl rfl rfl rfl (V_neAgg rfl rfl rfl (by kernel_rfl : Tryd.prog.eqGuardType Tryd.prog.depth 26 = false) (fun w => eqDgDO _ _ w) decide_not.symm) ?_
        refine LQ_wv rfl rfl rfl rfl rfl rfl (V_move rfl rfl) ?_
        refine LQ_split 32 rfl (fun h5 => ?_) (fun h5 => ?_)
        ·
          first | (have h5 := of_decide_eq_true h5) | (have h5 := of_decide_eq_false h5) | skip
          refine LQ_wv rfl rfl rfl rfl rfl rfl (V_loadT 0 (vs := dgM p) rfl rfl rfl Tryd.underlying26 rfl sz26pb (by kernel_rfl) (by kernel_rfl)) ?_
          refine LQ_wv rfl rfl rfl rfl rfl rfl (V_fieldAddr rfl rfl Tryd.underlying28 rfl sz26pb rfl) ?_
          refine LQ_wv rfl rfl rfl rfl rfl rfl (V_loadT 2 (vs := dgM x.path) rfl rfl rfl Tryd.underlying26 rfl sz26pb (by kernel_rfl) (by kernel_rfl)) ?_
          refine LQ_wcallV rfl rfl rfl rfl rfl rfl rfl rfl rfl tx82pb (fun w1 hw => rcommon_w (l32 p) (l32 x.path) w1 rfl rfl hp hx) ?_
          refine LQ_wv rfl rfl rfl rfl rfl rfl (V_fieldAddr rfl rfl Tryd.underlying28 rfl sz24pb rfl) ?_
          refine LQ_wv rfl rfl rfl rfl rfl rfl (V_load1 2 rfl rfl rfl Tryd.underlying24 rfl (by rfl)) ?_
          refine LQ_wv rfl rfl rfl rfl rfl rfl (V_len rfl rfl Tryd.underlying24 rfl) ?_
          refine LQ_wv rfl rfl rfl rfl rfl rfl (V_geq rfl rfl rfl rfl) ?_
          first | refine LQ_wv rfl rfl rfl rfl rfl rfl (V_pickT rfl rfl rfl) ?_ | refine LQ_wv rfl rfl rfl rfl rfl rfl (V_pickF rfl rfl rfl) ?_
          first | refine LQ_v rfl rfl rfl (V_pickT rfl rfl rfl) ?_ | refine LQ_v rfl rfl rfl (V_pickF rfl rfl rfl) ?_
          refine LQ_v rfl rfl rfl (V_assign rfl rfl) ?_
          refine LQ_nil ?_
          change J _ _ _ _
          refine J_ret ?_
          change Kret _ _ _ Exit.ret _
          refine ret1 rfl rfl (RV_t rfl) ?_
          exact fun w' h => ⟨congrArg (fun b => Ending.returned (Value.bool b)) (by rw [Bool.eq_iff_iff]; simp only [decide_eq_true_eq, Bool.and_eq_true, Bool.or_eq_true, Bool.not_eq_true', decide_eq_false_iff_not]; grind), h.fr⟩
        ·
          first | (have h5 := of_decide_eq_true h5) | (have h5 := of_decide_eq_false h5) | skip
          refine LQ_skip rfl rfl rfl rfl rfl rfl rfl ?_
          refine LQ_skip rfl rfl rfl rfl rfl rfl rfl ?_
          refine LQ_skip rfl rfl rfl rfl rfl rfl rfl ?_
          refine LQ_skip rfl rfl rfl rfl rfl rfl rfl ?_
          refine LQ_skip rfl rfl rfl rfl rfl rfl rfl ?_
          refine LQ_skip rfl rfl rfl rfl rfl rfl rfl ?_
          refine LQ_skip rfl rfl rfl rfl rfl rfl rfl ?_
          refine LQ_skip rfl rfl rfl rfl rfl rfl rfl ?_
          first | refine LQ_wv rfl rfl rfl rfl rfl rfl (V_pickT rfl rfl rfl) ?_ | refine LQ_wv rfl rfl rfl rfl rfl rfl (V_pickF rfl rfl rfl) ?_
          first | refine LQ_v rfl rfl rfl (V_pickT rfl rfl rfl) ?_ | refine LQ_v rfl rfl rfl (V_pickF rfl rfl rfl) ?_
          refine LQ_v rfl rfl rfl (V_assign rfl rfl) ?_
          refine LQ_nil ?_
          change J _ _ _ _
          refine J_ret ?_
          change Kret _ _ _ Exit.ret _
          refine ret1 rfl rfl (RV_t rfl) ?_
          exact fun w' h => ⟨congrArg (fun b => Ending.returned (Value.bool b)) (by rw [Bool.eq_iff_iff]; simp only [decide_eq_true_eq, Bool.and_eq_true, Bool.or_eq_true, Bool.not_eq_true', decide_eq_false_iff_not]; grind), h.fr⟩
  ·
    first | (have h1 := of_decide_eq_true h1) | (have h1 := of_decide_eq_false h1) | skip
    refine L_wv rfl rfl rfl rfl rfl rfl (V_fieldAddr rfl rfl Tryd.underlying54 rfl sz4pb rfl) ?_
    refine L_wv rfl rfl rfl rfl rfl rfl (V_load1 1 rfl rfl rfl Tryd.underlying4 rfl (by rfl)) ?_
    refine L_wv rfl rfl rfl rfl rfl rfl (V_move rfl rfl) ?_
    refine L_split 14 rfl (fun h2 => ?_) (fun h2 => ?_)
    ·
      first | (have h2 := of_decide_eq_true h2) | (have h2 := of_decide_eq_false h2) | skip
      refine L_wv rfl rfl rfl rfl rfl rfl (V_fieldAddr rfl rfl Tryd.underlying28 rfl sz4pb rfl) ?_
      refine L_wv rfl rfl rfl rfl rfl rfl (V_load1 2 rfl rfl rfl Tryd.underlying4 rfl (by rfl)) ?_
      first | refine L_wv rfl rfl rfl rfl rfl rfl (V_pickT rfl rfl rfl) ?_ | refine L_wv rfl rfl rfl rfl rfl rfl (V_pickF rfl rfl rfl) ?_
      first | refine L_v rfl rfl rfl (V_pickT rfl rfl rfl) ?_ | refine L_v rfl rfl rfl (V_pickF rfl rfl rfl) ?_
      refine L_v rfl rfl rfl (V_move rfl rfl) ?_
      apply L_or 3 19 23
      · rfl
      · rfl
      · rfl
      · rfl
      · rfl
      · rfl
      · rfl
      · kernel_rfl
      · intro hb3 _ _ hk3
        refine L_wv rfl rfl rfl rfl rfl rfl (V_loadT 2 (vs := pfM x s) rfl rfl rfl Tryd.underlying28 rfl sz28pb (by kernel_rfl) (by kernel_rfl)) ?_
        refine L_wcallV rfl rfl rfl rfl rfl rfl rfl rfl rfl tx81pb (fun w1 hw => plain_w x s w1) ?_
        refine L_wv rfl rfl rfl rfl rfl rfl (V_not rfl rfl rfl) ?_
        exact hk3 _ ⟨rfl, rfl, rfl, rfl, ext_cut 3 (by kernel_rfl) (by kernel_rfl)⟩
      refine L_nil ?_
      change J _ _ _ _
      refine J_cond rfl (fun h4 => ?_) (fun h4 => ?_)
      ·
        first | (have h4 := of_decide_eq_true h4) | (have h4 := of_decide_eq_false h4) | skip
        refine J_seq ?_
        refine J_region ?_
        refine L_v rfl rfl rfl (V_assign rfl rfl) ?_
        refine L_nil ?_
        change J _ _ _ _
        refine J_ret ?_
        change Kret _ _ _ Exit.ret _
        refine ret1 rfl rfl (RV_t rfl) ?_
        exact fun w' h => ⟨congrArg (fun b => Ending.returned (Value.bool b)) (by rw [Bool.eq_iff_iff]; simp only [decide_eq_true_eq, Bool.and_eq_true, Bool.or_eq_true, Bool.not_eq_true', decide_eq_false_iff_not]; grind), h.fr⟩
      ·
        first | (have h4 := of_decide_eq_true h4) | (have h4 := of_decide_eq_false h4) | skip
        refine J_skip ?_
        change J _ _ _ _
        refine J_seq ?_
        refine J_regionQ rfl (by kernel_rfl) ?_
        refine LQ_v rfl rfl rfl (V_fieldAddr rfl rfl Tryd.underlying28 rfl sz4pb rfl) ?_
        refine LQ_v rfl rfl rfl (V_load1 2 rfl rfl rfl Tryd.underlying4 rfl (by rfl)) ?_
        refine LQ_v rfl rfl rfl (V_not rfl rfl rfl) ?_
        refine LQ_v rfl rfl rfl (V_move rfl rfl) ?_
        refine LQ_split 27 rfl (fun h5 => ?_) (fun h5 => ?_)
        ·
          first | (have h5 := of_decide_eq_true h5) | (have h5 := of_decide_eq_false h5) | skip
          refine LQ_skip rfl rfl rfl rfl rfl rfl rfl ?_
          refine LQ_skip rfl rfl rfl rfl rfl rfl rfl ?_
          refine LQ_skip rfl rfl rfl rfl rfl rfl rfl ?_
          refine LQ_skip rfl rfl rfl rfl rfl rfl rfl ?_
          refine LQ_skip rfl rfl rfl rfl rfl rfl rfl ?_
          refine LQ_skip rfl rfl rfl rfl rfl rfl rfl ?_
          refine LQ_skip rfl rfl rfl rfl rfl rfl rfl ?_
          refine LQ_skip rfl rfl rfl rfl rfl rfl rfl ?_
          refine LQ_skip rfl rfl rfl rfl rfl rfl rfl ?_
          refine LQ_skip rfl rfl rfl rfl rfl rfl rfl ?_
          refine LQ_skip rfl rfl rfl rfl rfl rfl rfl ?_
          refine LQ_skip rfl rfl rfl rfl rfl rfl rfl ?_
          refine LQ_skip rfl rfl rfl rfl rfl rfl rfl ?_
          refine LQ_skip rfl rfl rfl rfl rfl rfl rfl ?_
          first | refine LQ_v rfl rfl rfl (V_pickT rfl rfl rfl) ?_ | refine LQ_v rfl rfl rfl (V_pickF rfl rfl rfl) ?_
          refine LQ_v rfl rfl rfl (V_assign rfl rfl) ?_
          refine LQ_nil ?_
          change J _ _ _ _
          refine J_ret ?_
          change Kret _ _ _ Exit.ret _
          refine ret1 rfl rfl (RV_t rfl) ?_
          exact fun w' h => ⟨congrArg (fun b => Ending.returned (Value.bool b)) (by rw [Bool.eq_iff_iff]; simp only [decide_eq_true_eq, Bool.and_eq_true, Bool.or_eq_true, Bool.not_eq_true', decide_eq_false_iff_not]; grind), h.fr⟩
        ·
          first | (have h5 := of_decide_eq_true h5) | (have h5 := of_decide_eq_false h5) | skip
          refine LQ_wv rfl rfl rfl rfl rfl rfl (V_fieldAddr rfl rfl Tryd.underlying28 rfl sz26pb rfl) ?_
          refine LQ_wv rfl rfl rfl rfl rfl rfl (V_loadT 2 (vs := dgM x.path) rfl rfl rfl Tryd.underlying26 rfl sz26pb (by kernel_rfl) (by kernel_rfl)) ?_
          refine LQ_wv rfl rfl rfl rfl rfl rfl (V_loadT 0 (vs := dgM p) rfl rfl rfl Tryd.underlying26 rfl sz26pb (by kernel_rfl) (by kernel_rfl)) ?_
          refine LQ_wv rfl rfl rfl rfl rfl rfl (V_neAgg rfl rfl rfl (by kernel_rfl : Tryd.prog.eqGuardType Tryd.prog.depth 26 = false) (fun w => eqDgDO _ _ w) decide_not.symm) ?_
          refine LQ_wv rfl rfl rfl rfl rfl rfl (V_move rfl rfl) ?_
          refine LQ_split 32 rfl (fun h6 => ?_) (fun h6 => ?_)
          ·
            first | (have h6 := of_decide_eq_true h6) | (have h6 := of_decide_eq_false h6) | skip
            refine LQ_wv rfl rfl rfl rfl rfl rfl (V_loadT 0 (vs := dgM p) rfl rfl rfl Tryd.underlying26 rfl sz26pb (by kernel_rfl) (by kernel_rfl)) ?_
            refine LQ_wv rfl rfl rfl rfl rfl rfl (V_fieldAddr rfl rfl Tryd.underlying28 rfl sz26pb rfl) ?_
            refine LQ_wv rfl rfl rfl rfl rfl rfl (V_loadT 2 (vs := dgM x.path) rfl rfl rfl Tryd.underlying26 rfl sz26pb (by kernel_rfl) (by kernel_rfl)) ?_
            refine LQ_wcallV rfl rfl rfl rfl rfl rfl rfl rfl rfl tx82pb (fun w1 hw => rcommon_w (l32 p) (l32 x.path) w1 rfl rfl hp hx) ?_
            refine LQ_wv rfl rfl rfl rfl rfl rfl (V_fieldAddr rfl rfl Tryd.underlying28 rfl sz24pb rfl) ?_
            refine LQ_wv rfl rfl rfl rfl rfl rfl (V_load1 2 rfl rfl rfl Tryd.underlying24 rfl (by rfl)) ?_
            refine LQ_wv rfl rfl rfl rfl rfl rfl (V_len rfl rfl Tryd.underlying24 rfl) ?_
            refine LQ_wv rfl rfl rfl rfl rfl rfl (V_geq rfl rfl rfl rfl) ?_
            first | refine LQ_wv rfl rfl rfl rfl rfl rfl (V_pickT rfl rfl rfl) ?_ | refine LQ_wv rfl rfl rfl rfl rfl rfl (V_pickF rfl rfl rfl) ?_
            first | refine LQ_v rfl rfl rfl (V_pickT rfl rfl rfl) ?_ | refine LQ_v rfl rfl rfl (V_pickF rfl rfl rfl) ?_
            refine LQ_v rfl rfl rfl (V_assign rfl rfl) ?_
            refine LQ_nil ?_
            change J _ _ _ _
            refine J_ret ?_
            change Kret _ _ _ Exit.ret _
            refine ret1 rfl rfl (RV_t rfl) ?_
            exact fun w' h => ⟨congrArg (fun b => Ending.returned (Value.bool b)) (by rw [Bool.eq_iff_iff]; simp only [decide_eq_true_eq, Bool.and_eq_true, Bool.or_eq_true, Bool.not_eq_true', decide_eq_false_iff_not]; grind), h.fr⟩
          ·
            first | (have h6 := of_decide_eq_true h6) | (have h6 := of_decide_eq_false h6) | skip
            refine LQ_skip rfl rfl rfl rfl rfl rfl rfl ?_
            refine LQ_skip rfl rfl rfl rfl rfl rfl rfl ?_
            refine LQ_skip rfl rfl rfl rfl rfl rfl rfl ?_
            refine LQ_skip rfl rfl rfl rfl rfl rfl rfl ?_
            refine LQ_skip rfl rfl rfl rfl rfl rfl rfl ?_
            refine LQ_skip rfl rfl rfl rfl rfl rfl rfl ?_
            refine LQ_skip rfl rfl rfl rfl rfl rfl rfl ?_
            refine LQ_skip rfl rfl rfl rfl rfl rfl rfl ?_
            first | refine LQ_wv rfl rfl rfl rfl rfl rfl (V_pickT rfl rfl rfl) ?_ | refine LQ_wv rfl rfl rfl rfl rfl rfl (V_pickF rfl rfl rfl) ?_
            first | refine LQ_v rfl rfl rfl (V_pickT rfl rfl rfl) ?_ | refine LQ_v rfl rfl rfl (V_pickF rfl rfl rfl) ?_
            refine LQ_v rfl rfl rfl (V_assign rfl rfl) ?_
            refine LQ_nil ?_
            change J _ _ _ _
            refine J_ret ?_
            change Kret _ _ _ Exit.ret _
            refine ret1 rfl rfl (RV_t rfl) ?_
            exact fun w' h => ⟨congrArg (fun b => Ending.returned (Value.bool b)) (by rw [Bool.eq_iff_iff]; simp only [decide_eq_true_eq, Bool.and_eq_true, Bool.or_eq_true, Bool.not_eq_true', decide_eq_false_iff_not]; grind), h.fr⟩
    ·
      first | (have h2 := of_decide_eq_true h2) | (have h2 := of_decide_eq_false h2) | skip
      refine L_skip rfl rfl rfl rfl rfl rfl rfl ?_
      refine L_skip rfl rfl rfl rfl rfl rfl rfl ?_
      first | refine L_wv rfl rfl rfl rfl rfl rfl (V_pickT rfl rfl rfl) ?_ | refine L_wv rfl rfl rfl rfl rfl rfl (V_pickF rfl rfl rfl) ?_
      first | refine L_v rfl rfl rfl (V_pickT rfl rfl rfl) ?_ | refine L_v rfl rfl rfl (V_pickF rfl rfl rfl) ?_
      refine L_v rfl rfl rfl (V_move rfl rfl) ?_
      apply L_or 3 19 23
      · rfl
      · rfl
      · rfl
      · rfl
      · rfl
      · rfl
      · rfl
      · kernel_rfl
      · intro hb3 _ _ hk3
        refine L_wv rfl rfl rfl rfl rfl rfl (V_loadT 2 (vs := pfM x s) rfl rfl rfl Tryd.underlying28 rfl sz28pb (by kernel_rfl) (by kernel_rfl)) ?_
        refine L_wcallV rfl rfl rfl rfl rfl rfl rfl rfl rfl tx81pb (fun w1 hw => plain_w x s w1) ?_
        refine L_wv rfl rfl rfl rfl rfl rfl (V_not rfl rfl rfl) ?_
        exact hk3 _ ⟨rfl, rfl, rfl, rfl, ext_cut 3 (by kernel_rfl) (by kernel_rfl)⟩
      refine L_nil ?_
      change J _ _ _ _
      refine J_cond rfl (fun h4 => ?_) (fun h4 => ?_)
      ·
        first | (have h4 := of_decide_eq_true h4) | (have h4 := of_decide_eq_false h4) | skip
        refine J_seq ?_
        refine J_region ?_
        refine L_v rfl rfl rfl (V_assign rfl rfl) ?_
        refine L_nil ?_
        change J _ _ _ _
        refine J_ret ?_
        change Kret _ _ _ Exit.ret _
        refine ret1 rfl rfl (RV_t rfl) ?_
        exact fun w' h => ⟨congrArg (fun b => Ending.returned (Value.bool b)) (by rw [Bool.eq_iff_iff]; simp only [decide_eq_true_eq, Bool.and_eq_true, Bool.or_eq_true, Bool.not_eq_true', decide_eq_false_iff_not]; grind), h.fr⟩
      ·
        first | (have h4 := of_decide_eq_true h4) | (have h4 := of_decide_eq_false h4) | skip
        refine J_skip ?_
        change J _ _ _ _
        refine J_seq ?_
        refine J_regionQ rfl (by kernel_rfl) ?_
        refine LQ_v rfl rfl rfl (V_fieldAddr rfl rfl Tryd.underlying28 rfl sz4pb rfl) ?_
        refine LQ_v rfl rfl rfl (V_load1 2 rfl rfl rfl Tryd.underlying4 rfl (by rfl)) ?_
        refine LQ_v rfl rfl rfl (V_not rfl rfl rfl) ?_
        refine LQ_v rfl rfl rfl (V_move rfl rfl) ?_
        refine LQ_split 27 rfl (fun h5 => ?_) (fun h5 => ?_)
        ·
          first | (have h5 := of_decide_eq_true h5) | (have h5 := of_decide_eq_false h5) | skip
          refine LQ_skip rfl rfl rfl rfl rfl rfl rfl ?_
          refine LQ_skip rfl rfl rfl rfl rfl rfl rfl ?_
          refine LQ_skip rfl rfl rfl rfl rfl rfl rfl ?_
          refine LQ_skip rfl rfl rfl rfl rfl rfl rfl ?_
          refine LQ_skip rfl rfl rfl rfl rfl rfl rfl ?_
          refine LQ_skip rfl rfl rfl rfl rfl rfl rfl ?_
          refine LQ_skip rfl rfl rfl rfl rfl rfl rfl ?_
          refine LQ_skip rfl rfl rfl rfl rfl rfl rfl ?_
          refine LQ_skip rfl rfl rfl rfl rfl rfl rfl ?_
          refine LQ_skip rfl rfl rfl rfl rfl rfl rfl ?_
          refine LQ_skip rfl rfl rfl rfl rfl rfl rfl ?_
          refine LQ_skip rfl rfl rfl rfl rfl rfl rfl ?_
          refine LQ_skip rfl rfl rfl rfl rfl rfl rfl ?_
          refine LQ_skip rfl rfl rfl rfl rfl rfl rfl ?_
          first | refine LQ_v rfl rfl rfl (V_pickT rfl rfl rfl) ?_ | refine LQ_v rfl rfl rfl (V_pickF rfl rfl rfl) ?_
          refine LQ_v rfl rfl rfl (V_assign rfl rfl) ?_
          refine LQ_nil ?_
          change J _ _ _ _
          refine J_ret ?_
          change Kret _ _ _ Exit.ret _
          refine ret1 rfl rfl (RV_t rfl) ?_
          exact fun w' h => ⟨congrArg (fun b => Ending.returned (Value.bool b)) (by rw [Bool.eq_iff_iff]; simp only [decide_eq_true_eq, Bool.and_eq_true, Bool.or_eq_true, Bool.not_eq_true', decide_eq_false_iff_not]; grind), h.fr⟩
        ·
          first | (have h5 := of_decide_eq_true h5) | (have h5 := of_decide_eq_false h5) | skip
          refine LQ_wv rfl rfl rfl rfl rfl rfl (V_fieldAddr rfl rfl Tryd.underlying28 rfl sz26pb rfl) ?_
          refine LQ_wv rfl rfl rfl rfl rfl rfl (V_loadT 2 (vs := dgM x.path) rfl rfl rfl Tryd.underlying26 rfl sz26pb (by kernel_rfl) (by kernel_rfl)) ?_
          refine LQ_wv rfl rfl rfl rfl rfl rfl (V_loadT 0 (vs := dgM p) rfl rfl rfl Tryd.underlying26 rfl sz26pb (by kernel_rfl) (by kernel_rfl)) ?_
          refine LQ_wv rfl rfl rfl rfl rfl rfl (V_neAgg rfl rfl rfl (by kernel_rfl : Tryd.prog.eqGuardType Tryd.prog.depth 26 = false) (fun w => eqDgDO _ _ w) decide_not.symm) ?_
          refine LQ_wv rfl rfl rfl rfl rfl rfl (V_move rfl rfl) ?_
          refine LQ_split 32 rfl (fun h6 => ?_) (fun h6 => ?_)
          ·
            first | (have h6 := of_decide_eq_true h6) | (have h6 := of_decide_eq_false h6) | skip
            refine LQ_wv rfl rfl rfl rfl rfl rfl (V_loadT 0 (vs := dgM p) rfl rfl rfl Tryd.underlying26 rfl sz26pb (by kernel_rfl) (by kernel_rfl)) ?_
            refine LQ_wv rfl rfl rfl rfl rfl rfl (V_fieldAddr rfl rfl Tryd.underlying28 rfl sz26pb rfl) ?_
            refine LQ_wv rfl rfl rfl rfl rfl rfl (V_loadT 2 (vs := dgM x.path) rfl rfl rfl Tryd.underlying26 rfl sz26pb (by kernel_rfl) (by kernel_rfl)) ?_
            refine LQ_wcallV rfl rfl rfl rfl rfl rfl rfl rfl rfl tx82pb (fun w1 hw => rcommon_w (l32 p) (l32 x.path) w1 rfl rfl hp hx) ?_
            refine LQ_wv rfl rfl rfl rfl rfl rfl (V_fieldAddr rfl rfl Tryd.underlying28 rfl sz24pb rfl) ?_
            refine LQ_wv rfl rfl rfl rfl rfl rfl (V_load1 2 rfl rfl rfl Tryd.underlying24 rfl (by rfl)) ?_
            refine LQ_wv rfl rfl rfl rfl rfl rfl (V_len rfl rfl Tryd.underlying24 rfl) ?_
            refine LQ_wv rfl rfl rfl rfl rfl rfl (V_geq rfl rfl rfl rfl) ?_
            first | refine LQ_wv rfl rfl rfl rfl rfl rfl (V_pickT rfl rfl rfl) ?_ | refine LQ_wv rfl rfl rfl rfl rfl rfl (V_pickF rfl rfl rfl) ?_
            first | refine LQ_v rfl rfl rfl (V_pickT rfl rfl rfl) ?_ | refine LQ_v rfl rfl rfl (V_pickF rfl rfl rfl) ?_
            refine LQ_v rfl rfl rfl (V_assign rfl rfl) ?_
            refine LQ_nil ?_
            change J _ _ _ _
            refine J_ret ?_
            change Kret _ _ _ Exit.ret _
            refine ret1 rfl rfl (RV_t rfl) ?_
            exact fun w' h => ⟨congrArg (fun b => Ending.returned (Value.bool b)) (by rw [Bool.eq_iff_iff]; simp only [decide_eq_true_eq, Bool.and_eq_true, Bool.or_eq_true, Bool.not_eq_true', decide_eq_false_iff_not]; grind), h.fr⟩
          ·
            first | (have h6 := of_decide_eq_true h6) | (have h6 := of_decide_eq_false h6) | skip
            refine LQ_skip rfl rfl rfl rfl rfl rfl rfl ?_
            refine LQ_skip rfl rfl rfl rfl rfl rfl rfl ?_
            refine LQ_skip rfl rfl rfl rfl rfl rfl rfl ?_
            refine LQ_skip rfl rfl rfl rfl rfl rfl rfl ?_
            refine LQ_skip rfl rfl rfl rfl rfl rfl rfl ?_
            refine LQ_skip rfl rfl rfl rfl rfl rfl rfl ?_
            refine LQ_skip rfl rfl rfl rfl rfl rfl rfl ?_
            refine LQ_skip rfl rfl rfl rfl rfl rfl rfl ?_
            first | refine LQ_wv rfl rfl rfl rfl rfl rfl (V_pickT rfl rfl rfl) ?_ | refine LQ_wv rfl rfl rfl rfl rfl rfl (V_pickF rfl rfl rfl) ?_
            first | refine LQ_v rfl rfl rfl (V_pickT rfl rfl rfl) ?_ | refine LQ_v rfl rfl rfl (V_pickF rfl rfl rfl) ?_
            refine LQ_v rfl rfl rfl (V_assign rfl rfl) ?_
            refine LQ_nil ?_
            change J _ _ _ _
            refine J_ret ?_
            change Kret _ _ _ Exit.ret _
            refine ret1 rfl rfl (RV_t rfl) ?_
            exact fun w' h => ⟨congrArg (fun b => Ending.returned (Value.bool b)) (by rw [Bool.eq_iff_iff]; simp only [decide_eq_true_eq, Bool.and_eq_true, Bool.or_eq_true, Bool.not_eq_true', decide_eq_false_iff_not]; grind), h.fr⟩

end Go.Proofs.YtfdmjjhgdbpfeaaDoor

/- Going through what a proof is summed of, from the end up; the check. -/
set_option linter.unusedVariables false
set_option linter.unusedSimpArgs false
set_option maxRecDepth 100000
namespace Go.Proofs.YtfdmjjhgdbpfeaaDoor
open Go.Sx
def bwV (sib : List Dg) : Nat → Unit → List Value := fun k _ => [.int .i64 ((sib.length - 1 - k : Nat) : Int), .agg (dgM (sib.getD (sib.length - 1 - k) dz)).toArray]
def rgV (p : Dg) (c : Cm) (x : Pf) : Nat → Nat × Nat → List Value := fun k y => [.slice (some ⟨y.1, 0, none⟩) (upP p c x k).length ((upP p c x k).length + y.2)]
def rgY (p : Dg) (c : Cm) (x : Pf) (w0 : World) (mods : List Nat) : Nat → Nat × Nat → Fact := fun k y => newB w0 mods y.1 (upP p c x k).length ((upP p c x k).length + y.2) (upP p c x k)
def tabF (g : Nat) : Fact where
  fp k := k = g
  p w := TabK KT g w
  dep w w' h hp := fun t ht => by rw [World.cell?_of_block (w := w) (h g rfl)]; exact hp t ht
theorem tab_fa {g : Nat} {w : World} (h : TabK KT g w) : FA w (tabF g) := ⟨h, fun k hk => by have hk : k = g := hk; subst hk; exact h.lt⟩
abbrev BwN (b : Nat) (sib : List Dg) (s : Sl) (w : World) : Prop := w.heap[b]? = some (row 24 [.slice s.1 sib.length s.2]) ∧ SlC 32 w (.slice s.1 sib.length s.2) sib.length ((sib.map dgM).flatten)
abbrev RgN (b : Nat) (p : Dg) (c : Cm) (x : Pf) (s : Sl) (w : World) : Prop := w.heap[b]? = some (row 96 (sdM p c x s)) ∧ SlC 32 w (.slice s.1 x.sib.length s.2) x.sib.length ((x.sib.map dgM).flatten) ∧ TabK KT 1 w
theorem up_1 {p : Dg} {c : Cm} {x : Pf} {k : Nat} (h : bitOf (l32 p) ((x.sib.length - 1 - k : Nat) : Int) = 1) : upP p c x (k + 1) = 1 :: l2s [x.sib.getD (x.sib.length - 1 - k) dz, shD (upP p c x k)] := by
  show stepP _ _ _ _ = _
  unfold stepP
  rw [if_pos h, node_l2]
theorem up_0 {p : Dg} {c : Cm} {x : Pf} {k : Nat} (h : ¬ bitOf (l32 p) ((x.sib.length - 1 - k : Nat) : Int) = 1) : upP p c x (k + 1) = 1 :: l2s [shD (upP p c x k), x.sib.getD (x.sib.length - 1 - k) dz] := by
  show stepP _ _ _ _ = _
  unfold stepP
  rw [if_neg h, node_l2]
/-- The blocks of one who goes through. -/
def rgM {Z : Type} (b0 b2 b3 l : Nat) (p : Dg) (c : Cm) (x : Pf) (s : Sl) (M : Nat → Z → Mem) (tl1 : Mem) (k : Nat) (z : Z × Nat × Nat × List Value) : Mem :=
  [(b0, row 129 [.func (.yield l) #[] #[]]), (b2, row 57 [.slice (some ⟨z.2.1, 0, none⟩) (upP p c x k).length ((upP p c x k).length + z.2.2.1)]), (b3, row 24 [.slice s.1 x.sib.length s.2]), (z.2.1, row 5 (dg (upP p c x k) ++ z.2.2.2))] ++ (M k z.1 ++ tl1)
theorem gs_in {Z : Type} {b0 b2 b3 l : Nat} {p : Dg} {c : Cm} {x : Pf} {s : Sl} {M : Nat → Z → Mem} {tl1 : Mem} {k : Nat} {z : Z} {g e : Nat} {rr : List Value} {fs gs : List Fact} {f0 : Fact} {w0 : World} {mods : List Nat} (h : GS (fs ++ [rgY p c x w0 mods k (g, e)]) gs (M k z)) : GS (fs ++ [f0]) gs (rgM b0 b2 b3 l p c x s M tl1 k (z, g, e, rr)) := by
  intro f hf
  rcases h f hf with h | h
  · rcases List.mem_append.1 h with h | h
    · exact .inl (List.mem_append_left _ h)
    · obtain rfl := List.mem_singleton.1 h
      refine .inr fun b hb => ?_
      obtain ⟨_, off, n', c', e⟩ := hb
      simp only [Value.slice.injEq, Option.some.injEq, Addr.mk.injEq] at e
      obtain ⟨⟨rfl, _⟩, _⟩ := e
      simp [rgM]
  · refine .inr fun b hb => ?_
    have := h b hb
    unfold rgM
    rw [List.map_append, List.map_append]
    exact List.mem_append_right _ (List.mem_append_left _ this)
theorem rgM_out {Z : Type} {w0 : World} {mods : List Nat} {b0 b2 b3 l : Nat} {p : Dg} {c : Cm} {x : Pf} {s : Sl} {M : Nat → Z → Mem} {tl1 tl2 : Mem} {k : Nat} {z : Z × Nat × Nat × List Value} {fs : List Fact} {w : World} (h : (outF w0 mods (rgM b0 b2 b3 l p c x s M tl1 k z ++ tl2) fs).p w) : (outF w0 mods (M k z.1 ++ tl1) fs).p w ∧ w.heap[b3]? = some (row 24 [.slice s.1 x.sib.length s.2]) :=
  ⟨outF_sub h ((List.sublist_append_right _ _).trans (List.sublist_append_left _ _)), h.1 _ _ (List.mem_append_left _ (List.mem_append_left _ (by simp)))⟩
theorem rg_perm {Z : Type} {b0 b2 b3 l : Nat} {p : Dg} {c : Cm} {x : Pf} {s : Sl} {M : Nat → Z → Mem} {tl1 T : Mem} {k : Nat} {z : Z} {g e : Nat} {rr : List Value} {own : Mem}
    (h : List.Sublist ([(b0, row 129 [.func (.yield l) #[] #[]]), (b2, row 57 [.slice (some ⟨g, 0, none⟩) (upP p c x k).length ((upP p c x k).length + e)]), (b3, row 24 [.slice s.1 x.sib.length s.2])] ++ (T ++ [(g, row 5 (dg (upP p c x k) ++ rr))])) own) :
    Pk (rgM b0 b2 b3 l p c x s M tl1 k (z, g, e, rr) ++ T) (own ++ (M k z ++ tl1)) := by
  refine ⟨_, ?_, h.append (List.Sublist.refl _)⟩
  show List.Perm ((_ ++ (T ++ [(g, _)])) ++ (M k z ++ tl1)) (([_, _, _] ++ [(g, _)] ++ (M k z ++ tl1)) ++ T)
  rw [List.append_assoc, List.append_assoc, List.append_assoc, List.append_assoc]
  refine List.Perm.append_left _ ?_
  rw [← List.append_assoc [_] (M k z ++ tl1) T]
  exact List.perm_append_comm
theorem sz26pc : (Tryd.prog.info? 26).map (·.size) = some 32 := by kernel_rfl

theorem rungs_o (p : Dg) (c : Cm) (x : Pf) (s : Sl) (w : World)  :
    Calls Tryd.prog 32 #[.agg (sdM p c x s).toArray] w fun e w' => ∃ b, e = .returned (.func (.func 64) #[] #[.pointer (some ⟨b, 0, none⟩)]) ∧ Fr [] w w' ∧ w.heap.size ≤ b ∧ w'.heap[b]? = some (row 96 (sdM p c x s)) := by
  refine calls_of (args := [.agg (sdM p c x s).toArray]) ([]) ([]) ([]) Tryd.func32 rfl rfl (okW0 _ _ _ _) ?_
  refine J_seq ?_
  refine J_region ?_
  refine L_box rfl rfl rfl rfl rfl (fun b0 => ?_)
  refine L_v rfl rfl rfl (V_assign rfl rfl) ?_
  refine L_nil ?_
  change J _ _ _ _
  refine J_seq ?_
  refine J_region ?_
  refine L_v rfl rfl rfl (V_makeFunc rfl rfl rfl) ?_
  refine L_v rfl rfl rfl (V_assign rfl rfl) ?_
  refine L_nil ?_
  change J _ _ _ _
  refine J_ret ?_
  change Kret _ _ _ Exit.ret _
  refine ret1 rfl rfl (RV_t rfl) ?_
  exact fun w' h => ⟨b0, rfl, h.fr, (by simpa using h.may b0 (List.mem_singleton.2 rfl)), h.at (i := 0) rfl⟩

theorem backward_o (a : Option Addr) (n c : Nat) (w : World) :
    Calls Tryd.prog 66 #[.slice a n c] w fun e w' => ∃ b, e = .returned (.func (.func 88) #[] #[.pointer (some ⟨b, 0, none⟩)]) ∧ Fr [] w w' ∧ w.heap.size ≤ b ∧ w'.heap[b]? = some (row 24 [.slice a n c]) := by
  refine calls_of (args := [.slice a n c]) ([]) ([]) ([]) Tryd.func66 rfl rfl (okW0 _ _ _ _) ?_
  refine J_seq ?_
  refine J_region ?_
  refine L_box rfl rfl rfl rfl rfl (fun b0 => ?_)
  refine L_v rfl rfl rfl (V_assign rfl rfl) ?_
  refine L_nil ?_
  change J _ _ _ _
  refine J_seq ?_
  refine J_region ?_
  refine L_v rfl rfl rfl (V_makeFunc rfl rfl rfl) ?_
  refine L_v rfl rfl rfl (V_assign rfl rfl) ?_
  refine L_nil ?_
  change J _ _ _ _
  refine J_ret ?_
  change Kret _ _ _ Exit.ret _
  refine ret1 rfl rfl (RV_t rfl) ?_
  exact fun w' h => ⟨b0, rfl, h.fr, (by simpa using h.may b0 (List.mem_singleton.2 rfl)), h.at (i := 0) rfl⟩

theorem bw_it (cx : Cx) {Z : Type} (M : Nat → Z → Mem) (G : Nat → Z → List Fact) (z0 : Z) (D l : Nat) (r : Loop) (b : Nat) (sib : List Dg) (s : Sl) (w : World) (hB : sib.length ≤ 1000) (hN : ∀ w0 mods k z w, (outF w0 mods (M k z ++ tl D l r) (G k z)).p w → BwN b sib s w) (hR : RoundsT Tryd.prog cx.w0 cx.mods M G (bwV sib) (fun _ _ => trueF) sib.length D l r) (hw : OkW cx (M 0 z0 ++ tl D l r) (G 0 z0) w) :
    Calls Tryd.prog 88 #[.func (.yield l) #[] #[], .pointer (some ⟨b, 0, none⟩)] w fun e w' => IterT cx M G sib.length D l r e w' := by
  refine calls_in (args := [.func (.yield l) #[] #[], .pointer (some ⟨b, 0, none⟩)]) cx.mods [] [outF cx.w0 cx.mods (M 0 z0 ++ tl D l r) (G 0 z0)] Tryd.func88 rfl rfl ((OkW.outer hw (own := []) (fi := []) (Pk.refl _) (fun f hf => hf) (fun f hf => by cases hf)).cast rfl rfl) ?_
  refine J_seq ?_
  refine J_region ?_
  refine L_v rfl rfl rfl (V_loadF rfl rfl Tryd.underlying24 rfl (fun w1 hw => (hN _ _ _ _ _ (hw.facts _ (List.mem_cons_self)).1).1) rfl) ?_
  refine L_v rfl rfl rfl (V_len rfl rfl Tryd.underlying24 rfl) ?_
  refine L_v rfl rfl rfl (V_sub rfl rfl rfl (by first | exact Go.IntWalk.i64_in _ (by omega) | rfl)) ?_
  refine L_v rfl rfl rfl (V_assign rfl rfl) ?_
  refine L_nil ?_
  change J _ _ _ _
  refine J_block ?_
  refine J_loop (X := Nat × Z) (fun y => { env := [(0, .func (.yield l) #[] #[]), (1, .pointer (some ⟨b, 0, none⟩)), (3, .int .i64 ((sib.length : Int) - 1 - (y.1 : Int)))], mem := [], facts := [outF cx.w0 cx.mods (M y.1 y.2 ++ tl D l r) (G y.1 y.2)] }) (fun y => y.1 ≤ sib.length) (fun y => sib.length - y.1) (0, z0) (Nat.zero_le _) ⟨⟨rfl, rfl, (by show _ = some (Value.int .i64 _); rw [show ((sib.length : Int) - 1 - ((0 : Nat) : Int)) = (sib.length : Int) - 1 by omega]; rfl), trivial⟩, List.Sublist.refl _, fun f hf => hf, rfl⟩ ?_
  rintro ⟨k, z⟩ hk
  simp only at hk ⊢
  refine J_seq ?_
  refine J_seq ?_
  refine J_region ?_
  refine L_v rfl rfl rfl (V_move rfl rfl) ?_
  refine L_v rfl rfl rfl (V_geq rfl rfl rfl (by first | exact decide_eq_true (by omega) | exact decide_eq_false (by omega) | rfl)) ?_
  refine L_nil ?_
  change J _ _ _ _
  refine J_cond rfl (fun h1 => ?_) (fun h1 => ?_)
  ·
    first | (have h1 := of_decide_eq_true h1) | (have h1 := of_decide_eq_false h1) | skip
    refine J_skip ?_
    change J _ _ _ _
    refine J_seq ?_
    refine J_block ?_
    refine J_seq ?_
    refine J_region ?_
    refine L_v rfl rfl rfl (V_move rfl rfl) ?_
    refine L_v rfl rfl rfl (V_move rfl rfl) ?_
    refine L_same 12 rfl ((show Value.int .i64 ((sib.length : Int) - 1 - (k : Int)) = Value.int .i64 ((sib.length - 1 - k : Nat) : Int) from congrArg _ (by omega))) ?_
    refine L_v rfl rfl rfl (V_loadF rfl rfl Tryd.underlying24 rfl (fun w1 hw => (hN _ _ _ _ _ (hw.facts _ (List.mem_cons_self)).1).1) rfl) ?_
    refine L_v rfl rfl rfl (V_move rfl rfl) ?_
    refine L_v rfl rfl rfl (V_indexC rfl rfl rfl Tryd.underlying24 sz26pc (fun w hw => (hN _ _ _ _ _ (hw.facts _ (List.mem_cons_self)).1).2) (by omega) (by omega)) ?_
    refine L_v rfl rfl rfl (V_loadCN (vs := dgM (sib.getD (sib.length - 1 - k) dz)) rfl rfl Tryd.underlying26 rfl (szd sz26pc (by kernel_rfl)) (fun w hw => (hN _ _ _ _ _ (hw.facts _ (List.mem_cons_self)).1).2) (by exact Nat.zero_lt_succ _) (rows_vi (f := dgM) dz (sz := 31) (fun _ => rfl) (by omega) (by omega))) ?_
    refine L_cons rfl (S_yieldT (k := k) (z := z) (Sup.refl _) () rfl rfl rfl rfl rfl (List.mem_cons_self) hR (by omega) [] (Pk.refl _) (fun w1 hw => ⟨FA.true, fun b hb => hb.elim⟩) [] (fun f hf => by cases hf) (fun z1 hg1 => ?_))
    refine L_v rfl rfl rfl (V_not rfl rfl rfl) ?_
    refine L_nil ?_
    change J _ _ _ _
    refine J_false rfl ?_
    refine J_skip ?_
    change J _ _ _ _
    refine J_region ?_
    refine L_v rfl rfl rfl (V_move rfl rfl) ?_
    refine L_v rfl rfl rfl (V_sub (r := (sib.length : Int) - 1 - ((k + 1 : Nat) : Int)) rfl rfl rfl (by rw [Go.IntWalk.i64_in _ (by omega)]; omega)) ?_
    refine L_v rfl rfl rfl (V_assign rfl rfl) ?_
    refine L_nil ?_
    exact ⟨(k + 1, z1), by show k + 1 ≤ sib.length; omega, by show sib.length - (k + 1) < sib.length - k; omega, ⟨rfl, rfl, rfl, trivial⟩, List.Sublist.refl _, fun f hf => by rw [List.mem_singleton.1 hf]; exact List.mem_cons_self, rfl⟩
  ·
    first | (have h1 := of_decide_eq_true h1) | (have h1 := of_decide_eq_false h1) | skip
    refine J_exit ?_
    change Kret _ _ _ Exit.normal _
    refine Kret_normal ?_
    refine ret0 rfl rfl  ?_
    obtain rfl : k = sib.length := by omega
    exact fun w2 h2 => ⟨⟨_, rfl⟩, z, (OkW.unout h2 (List.mem_cons_self)).cast rfl rfl⟩

end Go.Proofs.YtfdmjjhgdbpfeaaDoor

/- The closure that goes through what a proof is summed of. -/
set_option linter.unusedVariables false
set_option linter.unusedSimpArgs false
set_option maxRecDepth 100000
namespace Go.Proofs.YtfdmjjhgdbpfeaaDoor
open Go.Sx
theorem four_perm (a b c d : Nat × Obj) (X : Mem) : Pk ([a, c, d, b] ++ X) ([a, b, c, d] ++ X) :=
  Pk.of_perm (l := [a, b, c, d] ++ X) (List.Perm.append_right X (List.Perm.cons a (List.perm_append_comm (l₁ := [b]) (l₂ := [c, d])))) (List.Sublist.refl _)
theorem rg_last {Z : Type} {b0 b2 b3 l : Nat} {p : Dg} {c : Cm} {x : Pf} {s : Sl} {M : Nat → Z → Mem} {tl1 T : Mem} {k : Nat} {z : Z} {g n c1 : Nat} {rr : List Value} {own : Mem} {L : List Int} (hL : upP p c x k = L) (hn : L.length = n) (hc : n ≤ c1)
    (h : List.Sublist ([(b0, row 129 [.func (.yield l) #[] #[]]), (b2, row 57 [.slice (some ⟨g, 0, none⟩) n c1]), (b3, row 24 [.slice s.1 x.sib.length s.2])] ++ (T ++ [(g, row 5 (dg L ++ rr))])) own) :
    Pk (rgM b0 b2 b3 l p c x s M tl1 k (z, g, c1 - n, rr) ++ T) (own ++ (M k z ++ tl1)) := by
  subst hL
  subst hn
  refine rg_perm ?_
  rw [Nat.add_sub_cancel' hc]
  exact h
theorem sz3pd : (Tryd.prog.info? 3).map (·.size) = some 1 := by kernel_rfl
theorem sz24pd : (Tryd.prog.info? 24).map (·.size) = some 1 := by kernel_rfl
theorem sz26pd : (Tryd.prog.info? 26).map (·.size) = some 32 := by kernel_rfl
theorem sz28pd : (Tryd.prog.info? 28).map (·.size) = some 66 := by kernel_rfl
theorem sz57pd : (Tryd.prog.info? 57).map (·.size) = some 1 := by kernel_rfl
theorem sz96pd : (Tryd.prog.info? 96).map (·.size) = some 132 := by kernel_rfl
theorem tx13pd : Txt Tryd.prog 13 := txt_of Tryd.func13 rfl (by kernel_rfl)
theorem tx65pd : Txt Tryd.prog 65 := txt_of Tryd.func65 rfl (by kernel_rfl)
theorem tx66pd : Txt Tryd.prog 66 := txt_of Tryd.func66 rfl (by kernel_rfl)
theorem tx67pd : Txt Tryd.prog 67 := txt_of Tryd.func67 rfl (by kernel_rfl)
theorem tx68pd : Txt Tryd.prog 68 := txt_of Tryd.func68 rfl (by kernel_rfl)
theorem tx88pd : Txt Tryd.prog 88 := txt_of Tryd.func88 rfl (by kernel_rfl)
theorem z26pd : (Tryd.prog.info? 26).bind (·.zero) = some (.agg (dgM dz).toArray) := by kernel_rfl
theorem z57pd : (Tryd.prog.info? 57).bind (·.zero) = some (.slice none 0 0) := by kernel_rfl

set_option maxHeartbeats 1000000 in
theorem rg_it (cx : Cx) {Z : Type} (M : Nat → Z → Mem) (G : Nat → Z → List Fact) (z0 : Z) (D l : Nat) (r : Loop) (b : Nat) (p : Dg) (c : Cm) (x : Pf) (s : Sl) (w : World) (hp : DB p) (hc : DB c.2) (hsb : ∀ f ∈ x.sib, DB f) (hx1 : DB x.path) (hx2 : DB x.val) (hB : x.sib.length ≤ 256) (hN : ∀ w0 mods k z w, (outF w0 mods (M k z ++ tl D l r) (G k z)).p w → RgN b p c x s w) (hR : RoundsT Tryd.prog cx.w0 cx.mods M G (rgV p c x) (rgY p c x cx.w0 cx.mods) (x.sib.length + 1) D l r) (hw : OkW cx (M 0 z0 ++ tl D l r) (G 0 z0) w) :
    Calls Tryd.prog 64 #[.func (.yield l) #[] #[], .pointer (some ⟨b, 0, none⟩)] w fun e w' => IterT cx M G (x.sib.length + 1) D l r e w' := by
  refine calls_in_m (args := [.func (.yield l) #[] #[], .pointer (some ⟨b, 0, none⟩)]) cx.mods [] [outF cx.w0 cx.mods (M 0 z0 ++ tl D l r) (G 0 z0)] Tryd.func64 rfl rfl ((OkW.outer hw (own := []) (fi := []) (Pk.refl _) (fun f hf => hf) (fun f hf => by cases hf)).cast rfl rfl) ?_
  refine J_seq ?_
  refine J_region ?_
  refine L_box rfl rfl rfl rfl rfl (fun b0 => ?_)
  refine L_nil ?_
  change J _ _ _ _
  refine J_seq ?_
  refine J_region ?_
  refine L_v rfl rfl rfl (V_loadFN (vs := sdM p c x s) rfl rfl Tryd.underlying96 rfl (szd sz96pd (by kernel_rfl)) (fun w1 hw => (hN _ _ _ _ _ (hw.facts _ (List.mem_cons_self)).1).1) (by kernel_rfl)) ?_
  refine L_callB rfl rfl rfl rfl rfl rfl tx65pd (fun w1 hw => start_w p c x s w1) (fun g1 r1 c1 hl1 hc1 hr1 => ?_)
  obtain ⟨e1, rfl⟩ : ∃ e1, c1 = (startP p c x).length + e1 := ⟨c1 - (startP p c x).length, by omega⟩
  refine L_alloc rfl rfl rfl rfl z57pd (fun b2 => ?_)
  refine L_store1 2 rfl rfl rfl rfl rfl rfl rfl sz57pd (Nat.le_of_ble_eq_true (by kernel_rfl)) rfl ?_
  refine L_nil ?_
  change J _ _ _ _
  refine J_seq ?_
  refine J_seq ?_
  refine J_region ?_
  refine L_v rfl rfl rfl (V_fieldAddr rfl rfl Tryd.underlying96 rfl sz28pd rfl) ?_
  refine L_v rfl rfl rfl (V_fieldAddr rfl rfl Tryd.underlying28 rfl sz24pd rfl) ?_
  refine L_v rfl rfl rfl (V_loadF rfl rfl Tryd.underlying24 rfl (fun w1 hw => (hN _ _ _ _ _ (hw.facts _ (List.mem_cons_self)).1).1) rfl) ?_
  refine L_call rfl rfl rfl rfl tx66pd (fun w1 hw => (backward_o _ _ _ w1).mono ?_)
  rintro e w' ⟨b3, rfl, hfr, hsz, hb⟩
  refine ⟨_, _, _, rfl, hw.add hfr hb hsz, rfl, ?_⟩
  refine L_nil ?_
  change J _ _ _ _
  refine J_block ?_
  refine J_rangeFuncT (Z := Z × Nat × Nat × List Value) (rgM b0 b2 b3 l p c x s M (tl D l r)) (fun k z => G k z.1) (z0, g1, e1, r1) x.sib.length (bwV x.sib) (fun _ _ => trueF) rfl rfl rfl tx88pd (fun _ _ => rfl) (by intro q hq; rcases List.mem_cons.1 hq with rfl | hq; rfl; obtain rfl := List.mem_singleton.1 hq; rfl) (fun w1 hw => ?_) ?_ ?_ ?_
  · exact (OkW.unout hw (List.mem_cons_self)).pk (four_perm _ _ _ _ _) (fun f hf => hf)
  · intro D2 l2 r2 w9 hR9 hw9
    exact bw_it { P := Tryd.prog, w0 := cx.w0, nt := Tryd.f64.ntmps, mods := cx.mods } (rgM b0 b2 b3 l p c x s M (tl D l r)) (fun k z => G k z.1) (z0, g1, e1, r1) D2 l2 r2 b3 x.sib s w9 (by omega) (fun w0 mods k z w1 h9 => ⟨(rgM_out h9).2, (hN _ _ _ _ _ (rgM_out h9).1).2.1⟩) hR9 hw9
  · rintro w1 md D2 l2 r2 k ⟨z, g, e, rr⟩ y hk hsup
    refine J_conv ([(b0, row 129 [.func (.yield l) #[] #[]]), (b2, row 57 [.slice (some ⟨g, 0, none⟩) (upP p c x k).length ((upP p c x k).length + e)]), (b3, row 24 [.slice s.1 x.sib.length s.2]), (g, row 5 (dg (upP p c x k) ++ rr))] ++ tl D2 l2 r2) [outF w1 md (M (k) z ++ tl D l r) (G (k) z)] (fun w1 hw => OkW.outer hw (pk3 _ _ _) (fun f hf => List.mem_append_left _ hf) (fun f hf => by cases hf)) ?_
    refine J_seq ?_
    refine J_region ?_
    refine L_v rfl rfl rfl (V_assign rfl rfl) ?_
    refine L_nil ?_
    change J _ _ _ _
    refine J_region ?_
    refine L_alloc rfl rfl rfl rfl z26pd (fun b6 => ?_)
    refine L_storeW 6 rfl rfl rfl rfl rfl rfl (szd sz26pd (by kernel_rfl)) (all_one (by kernel_rfl)) (by kernel_rfl) ?_
    refine L_nil ?_
    refine ⟨[(b6, row 26 (dgM (x.sib.getD (x.sib.length - 1 - k) dz)))], G k z, rfl, fun w2 hw => (OkW.unout hw (List.mem_cons_self)).pk ?_ (fun f hf => hf), ?_⟩
    · exact in_assign [(b0, row 129 [.func (.yield l) #[] #[]]), (b2, row 57 [.slice (some ⟨g, 0, none⟩) (upP p c x k).length ((upP p c x k).length + e)]), (b3, row 24 [.slice s.1 x.sib.length s.2]), (g, row 5 (dg (upP p c x k) ++ rr))] (tl D2 l2 r2) [(b6, row 26 (dgM (x.sib.getD (x.sib.length - 1 - k) dz)))] (M k z ++ tl D l r)
    refine J_conv [(b0, row 129 [.func (.yield l) #[] #[]]), (b2, row 57 [.slice (some ⟨g, 0, none⟩) (upP p c x k).length ((upP p c x k).length + e)]), (b3, row 24 [.slice s.1 x.sib.length s.2]), (b6, row 26 (dgM (x.sib.getD (x.sib.length - 1 - k) dz))), (g, row 5 (dg (upP p c x k) ++ rr)), (D2, .deferred (some [])), (l2, .loop { r2 with state := .busy })] [outF w1 md (M (k) z ++ tl D l r) (G (k) z)] (fun w1 hw => OkW.outer hw (in_body [(b0, row 129 [.func (.yield l) #[] #[]]), (b2, row 57 [.slice (some ⟨g, 0, none⟩) (upP p c x k).length ((upP p c x k).length + e)]), (b3, row 24 [.slice s.1 x.sib.length s.2])] [(g, row 5 (dg (upP p c x k) ++ rr))] (M k z ++ tl D l r) [(D2, .deferred (some [])), (l2, .loop { r2 with state := .busy })] [(b6, row 26 (dgM (x.sib.getD (x.sib.length - 1 - k) dz)))]) (fun f hf => hf) (fun f hf => by cases hf)) ?_
    refine J_block ?_
    refine J_seq ?_
    refine J_seq ?_
    refine J_region ?_
    refine L_v rfl rfl rfl (V_load1 0 rfl rfl rfl Tryd.underlying129 rfl (by rfl)) ?_
    refine L_v rfl rfl rfl (V_load1 1 rfl rfl rfl Tryd.underlying57 rfl (by rfl)) ?_
    refine L_cons rfl (S_yieldT (k := k) (z := z) hsup (g, e) rfl rfl rfl rfl rfl (List.mem_cons_self) hR (by omega) (List.eraseIdx _ 4) (Pk.of_sub (List.eraseIdx_sublist _ _)) (fun w1 hw => own_Y hsup hw (i := 4) rfl rfl (List.mem_cons_self)) [] (fun f hf => by cases hf) (fun z1 hg1 => ?_))
    refine L_v rfl rfl rfl (V_not rfl rfl rfl) ?_
    refine L_nil ?_
    change J _ _ _ _
    refine J_false rfl ?_
    refine J_skip ?_
    change J _ _ _ _
    refine J_seq ?_
    refine J_region ?_
    refine L_v rfl rfl rfl (V_fieldAddr rfl rfl Tryd.underlying96 rfl sz3pd rfl) ?_
    refine L_v rfl rfl rfl (V_loadF rfl rfl Tryd.underlying3 rfl (fun w1 hw => (hN _ _ _ _ _ (hw.facts _ (List.mem_cons_self)).1).1) rfl) ?_
    refine L_v rfl rfl rfl (V_load1 1 rfl rfl rfl Tryd.underlying57 rfl (by rfl)) ?_
    refine L_callV rfl rfl rfl rfl rfl rfl tx13pd (fun w1 hw => Short_w (upP p c x k) (some ⟨g, 0, none⟩) (upP p c x k).length ((upP p c x k).length + e) w1 (hw.facts _ (List.mem_cons_of_mem _ List.mem_cons_self)).1.1 (upP_byt hp hc hsb hx1 hx2 k) (Nat.le_add_right _ _) (hN _ _ _ _ _ (hw.facts _ (List.mem_cons_self)).1).2.2 (by have := upP_len p c x k; omega)) ?_
    refine L_v rfl rfl rfl (V_move rfl rfl) ?_
    refine L_v rfl rfl rfl (V_extract rfl rfl rfl) ?_
    refine L_v rfl rfl rfl (V_extract rfl rfl rfl) ?_
    refine L_alloc rfl rfl rfl rfl z26pd (fun b6 => ?_)
    refine L_storeW 6 rfl rfl rfl rfl rfl rfl (szd sz26pd (by kernel_rfl)) (all_one (by kernel_rfl)) (by kernel_rfl) ?_
    refine L_v rfl rfl rfl (V_assign rfl rfl) ?_
    refine L_nil ?_
    change J _ _ _ _
    refine J_seq ?_
    refine J_region ?_
    refine L_v rfl rfl rfl (V_fieldAddr rfl rfl Tryd.underlying96 rfl sz26pd rfl) ?_
    refine L_v rfl rfl rfl (V_loadFN (vs := dgM p) rfl rfl Tryd.underlying26 rfl (szd sz26pd (by kernel_rfl)) (fun w1 hw => (hN _ _ _ _ _ (hw.facts _ (List.mem_cons_self)).1).1) (by kernel_rfl)) ?_
    refine L_v rfl rfl rfl (V_move rfl rfl) ?_
    refine L_callV rfl rfl rfl rfl rfl rfl tx67pd (fun w1 hw => right_w p (x.sib.length - 1 - k) w1 (by omega) hp) ?_
    refine L_nil ?_
    change J _ _ _ _
    refine J_cond rfl (fun h1 => ?_) (fun h1 => ?_)
    ·
      first | (have h1 := of_decide_eq_true h1) | (have h1 := of_decide_eq_false h1) | skip
      refine J_region ?_
      refine L_v rfl rfl rfl (V_loadT 3 (vs := dgM (x.sib.getD (x.sib.length - 1 - k) dz)) rfl rfl rfl Tryd.underlying26 rfl sz26pd (by kernel_rfl) (by kernel_rfl)) ?_
      refine L_v rfl rfl rfl (V_loadT 6 (vs := dgM (shD (upP p c x k))) rfl rfl rfl Tryd.underlying26 rfl sz26pd (by kernel_rfl) (by kernel_rfl)) ?_
      refine L_buildSlice (vs := [(0, .agg (dgM (x.sib.getD (x.sib.length - 1 - k) dz)).toArray), (1, .agg (dgM (shD (upP p c x k))).toArray)]) (l := ([(x.sib.getD (x.sib.length - 1 - k) dz), (shD (upP p c x k))].map dgM).flatten) rfl rfl rfl rfl rfl (bs2d (x.sib.getD (x.sib.length - 1 - k) dz) (shD (upP p c x k))) (fun b7 => ?_)
      refine L_callB rfl rfl rfl rfl rfl rfl tx68pd (fun w1 hw => bytes_w 1 [(x.sib.getD (x.sib.length - 1 - k) dz), (shD (upP p c x k))] (some ⟨b7, 0, none⟩, 2) w1 (fa_two hw (i := 7) rfl) (by simp)) (fun g1 r1 c1 hl1 hc1 hr1 => ?_)
      refine L_store1 1 rfl rfl rfl rfl rfl rfl rfl sz57pd (Nat.le_of_ble_eq_true (by kernel_rfl)) rfl ?_
      refine L_nil ?_
      exact ⟨(z1, g1, c1 - _, r1), gs_in hg1, fun w1 hw => (OkW.unout hw (List.mem_cons_self)).pk (rg_last (up_1 (by simpa using h1)) hl1 hc1 (List.Sublist.cons_cons _ (List.Sublist.cons_cons _ (List.Sublist.cons_cons _ (List.Sublist.cons _ (List.Sublist.cons_cons _ (List.Sublist.cons_cons _ (List.Sublist.cons _ (List.Sublist.cons _ (List.Sublist.cons_cons _ (List.nil_sublist _))))))))))) (fun f hf => hf)⟩
    ·
      first | (have h1 := of_decide_eq_true h1) | (have h1 := of_decide_eq_false h1) | skip
      refine J_region ?_
      refine L_v rfl rfl rfl (V_loadT 6 (vs := dgM (shD (upP p c x k))) rfl rfl rfl Tryd.underlying26 rfl sz26pd (by kernel_rfl) (by kernel_rfl)) ?_
      refine L_v rfl rfl rfl (V_loadT 3 (vs := dgM (x.sib.getD (x.sib.length - 1 - k) dz)) rfl rfl rfl Tryd.underlying26 rfl sz26pd (by kernel_rfl) (by kernel_rfl)) ?_
      refine L_buildSlice (vs := [(0, .agg (dgM (shD (upP p c x k))).toArray), (1, .agg (dgM (x.sib.getD (x.sib.length - 1 - k) dz)).toArray)]) (l := ([(shD (upP p c x k)), (x.sib.getD (x.sib.length - 1 - k) dz)].map dgM).flatten) rfl rfl rfl rfl rfl (bs2d (shD (upP p c x k)) (x.sib.getD (x.sib.length - 1 - k) dz)) (fun b7 => ?_)
      refine L_callB rfl rfl rfl rfl rfl rfl tx68pd (fun w1 hw => bytes_w 1 [(shD (upP p c x k)), (x.sib.getD (x.sib.length - 1 - k) dz)] (some ⟨b7, 0, none⟩, 2) w1 (fa_two hw (i := 7) rfl) (by simp)) (fun g1 r1 c1 hl1 hc1 hr1 => ?_)
      refine L_store1 1 rfl rfl rfl rfl rfl rfl rfl sz57pd (Nat.le_of_ble_eq_true (by kernel_rfl)) rfl ?_
      refine L_nil ?_
      exact ⟨(z1, g1, c1 - _, r1), gs_in hg1, fun w1 hw => (OkW.unout hw (List.mem_cons_self)).pk (rg_last (up_0 (by simpa using h1)) hl1 hc1 (List.Sublist.cons_cons _ (List.Sublist.cons_cons _ (List.Sublist.cons_cons _ (List.Sublist.cons _ (List.Sublist.cons_cons _ (List.Sublist.cons_cons _ (List.Sublist.cons _ (List.Sublist.cons _ (List.Sublist.cons_cons _ (List.nil_sublist _))))))))))) (fun f hf => hf)⟩
  · rintro D2 ⟨z, g, e, rr⟩
    change J _ _ _ _
    refine J_conv [(b0, row 129 [.func (.yield l) #[] #[]]), (b2, row 57 [.slice (some ⟨g, 0, none⟩) (upP p c x x.sib.length).length ((upP p c x x.sib.length).length + e)]), (b3, row 24 [.slice s.1 x.sib.length s.2]), (g, row 5 (dg (upP p c x x.sib.length) ++ rr)), (D2, .deferred (some []))] [outF cx.w0 cx.mods (M (x.sib.length) z ++ tl D l r) (G (x.sib.length) z)] (fun w1 hw => OkW.outer hw (pk3 [(b0, row 129 [.func (.yield l) #[] #[]]), (b2, row 57 [.slice (some ⟨g, 0, none⟩) (upP p c x x.sib.length).length ((upP p c x x.sib.length).length + e)]), (b3, row 24 [.slice s.1 x.sib.length s.2]), (g, row 5 (dg (upP p c x x.sib.length) ++ rr))] (M x.sib.length z ++ tl D l r) [(D2, .deferred (some []))]) (fun f hf => hf) (fun f hf => by cases hf)) ?_
    change J _ _ _ _
    refine J_region ?_
    refine L_v rfl rfl rfl (V_load1 0 rfl rfl rfl Tryd.underlying129 rfl (by rfl)) ?_
    refine L_v rfl rfl rfl (V_load1 1 rfl rfl rfl Tryd.underlying57 rfl (by rfl)) ?_
    refine L_cons rfl (S_yieldT (k := x.sib.length) (z := z) (Sup.refl { P := Tryd.prog, w0 := cx.w0, nt := Tryd.f64.ntmps, mods := cx.mods }) (g, e) rfl rfl rfl rfl rfl (List.mem_cons_self) hR (by omega) (List.eraseIdx _ 3) (Pk.of_sub (List.eraseIdx_sublist _ _)) (fun w1 hw => own_Y (Sup.refl { P := Tryd.prog, w0 := cx.w0, nt := Tryd.f64.ntmps, mods := cx.mods }) hw (i := 3) rfl rfl (List.mem_cons_self)) [] (fun f hf => by cases hf) (fun z1 hg1 => ?_))
    refine L_nil ?_
    change KretM _ _ _ Exit.normal _
    refine KretM_normal ?_
    refine KretM_mark 3 rfl rfl ?_
    refine ret0 rfl rfl  ?_
    exact fun w2 h2 => ⟨⟨_, rfl⟩, z1, ((OkW.unout h2 (List.mem_cons_self)).sub (List.sublist_append_right _ _) (fun f hf => hf)).cast rfl rfl⟩

end Go.Proofs.YtfdmjjhgdbpfeaaDoor

/- The check of a proof. -/
set_option linter.unusedVariables false
set_option linter.unusedSimpArgs false
set_option maxRecDepth 100000
namespace Go.Proofs.YtfdmjjhgdbpfeaaDoor
open Go.Sx
def tk (p : Dg) (c : Cm) (x : Pf) : Nat → Dg
  | 0 => dz
  | k + 1 => shD (upP p c x k)
theorem sz3pe : (Tryd.prog.info? 3).map (·.size) = some 1 := by kernel_rfl
theorem sz26pe : (Tryd.prog.info? 26).map (·.size) = some 32 := by kernel_rfl
theorem sz28pe : (Tryd.prog.info? 28).map (·.size) = some 66 := by kernel_rfl
theorem sz54pe : (Tryd.prog.info? 54).map (·.size) = some 33 := by kernel_rfl
theorem sz96pe : (Tryd.prog.info? 96).map (·.size) = some 132 := by kernel_rfl
theorem tx13pe : Txt Tryd.prog 13 := txt_of Tryd.func13 rfl (by kernel_rfl)
theorem tx30pe : Txt Tryd.prog 30 := txt_of Tryd.func30 rfl (by kernel_rfl)
theorem tx32pe : Txt Tryd.prog 32 := txt_of Tryd.func32 rfl (by kernel_rfl)
theorem tx62pe : Txt Tryd.prog 62 := txt_of Tryd.func62 rfl (by kernel_rfl)
theorem tx64pe : Txt Tryd.prog 64 := txt_of Tryd.func64 rfl (by kernel_rfl)
theorem z26pe : (Tryd.prog.info? 26).bind (·.zero) = some (.agg (dgM dz).toArray) := by kernel_rfl

theorem pchk_w (p : Dg) (c : Cm) (x : Pf) (s : Sl) (root : Dg) (w : World) (hp : DB p) (hc : DB c.2) (hsb : ∀ f ∈ x.sib, DB f) (hx1 : DB x.path) (hx2 : DB x.val) (f1 : FA w (sbF x.sib s)) (hB : x.sib.length ≤ 1099511627776) (hK : TabK KT 1 w) :
    Calls Tryd.prog 30 #[.agg (sdM p c x s).toArray, .agg (dgM root).toArray] w fun e w' => e = .returned (.int .i64 (pchk root p c x)) ∧ Fr [] w w' := by
  refine calls_of_m (args := [.agg (sdM p c x s).toArray, .agg (dgM root).toArray]) ([]) ([]) ([sbF x.sib s, tabF 1]) Tryd.func30 rfl rfl (okFW (.cons f1 (.cons (tab_fa hK) .nil))) ?_
  refine J_seq ?_
  refine J_region ?_
  refine L_box rfl rfl rfl rfl rfl (fun b0 => ?_)
  refine L_box rfl rfl rfl rfl rfl (fun b1 => ?_)
  refine L_v rfl rfl rfl (V_assign rfl rfl) ?_
  refine L_nil ?_
  change J _ _ _ _
  refine J_seq ?_
  refine J_block ?_
  refine J_seq ?_
  refine J_region ?_
  refine L_v rfl rfl rfl (V_fieldAddr rfl rfl Tryd.underlying96 rfl sz3pe rfl) ?_
  refine L_v rfl rfl rfl (V_load1 0 rfl rfl rfl Tryd.underlying3 rfl (by rfl)) ?_
  refine L_v rfl rfl rfl (V_lss rfl rfl rfl rfl) ?_
  refine L_v rfl rfl rfl (V_move rfl rfl) ?_
  apply L_or 3 11 15
  · rfl
  · rfl
  · rfl
  · rfl
  · rfl
  · rfl
  · rfl
  · kernel_rfl
  · intro hb1 _ _ hk1
    refine L_wv rfl rfl rfl rfl rfl rfl (V_fieldAddr rfl rfl Tryd.underlying96 rfl sz3pe rfl) ?_
    refine L_wv rfl rfl rfl rfl rfl rfl (V_load1 0 rfl rfl rfl Tryd.underlying3 rfl (by rfl)) ?_
    refine L_wv rfl rfl rfl rfl rfl rfl (V_gtr rfl rfl rfl rfl) ?_
    exact hk1 _ ⟨rfl, rfl, rfl, rfl, ext_cut 3 (by kernel_rfl) (by kernel_rfl)⟩
  refine L_v rfl rfl rfl (V_assign rfl rfl) ?_
  refine L_nil ?_
  change J _ _ _ _
  refine J_false rfl ?_
  refine J_seq ?_
  refine J_region ?_
  refine L_v rfl rfl rfl (V_loadT 0 (vs := sdM p c x s) rfl rfl rfl Tryd.underlying96 rfl sz96pe (by kernel_rfl) (by kernel_rfl)) ?_
  refine L_callV rfl rfl rfl rfl rfl rfl tx62pe (fun w1 hw => pmay_w p c x s w1 hp hx1 hB) ?_
  refine L_v rfl rfl rfl (V_not rfl rfl rfl) ?_
  refine L_v rfl rfl rfl (V_assign rfl rfl) ?_
  refine L_nil ?_
  change J _ _ _ _
  refine J_cond rfl (fun h2 => ?_) (fun h2 => ?_)
  ·
    first | (have h2 := of_decide_eq_true h2) | (have h2 := of_decide_eq_false h2) | skip
    refine J_seq ?_
    refine J_region ?_
    refine L_v rfl rfl rfl (V_assign rfl rfl) ?_
    refine L_nil ?_
    change J _ _ _ _
    refine J_ret ?_
    change KretM _ _ _ Exit.ret _
    refine KretM_plain rfl ?_
    refine ret1 rfl rfl (RV_t rfl) ?_
    exact fun w' h => ⟨congrArg (fun b => Ending.returned (Value.int .i64 b)) (by unfold pchk; rw [if_neg (by simpa using h2)]), h.fr⟩
  ·
    first | (have h2 := of_decide_eq_true h2) | (have h2 := of_decide_eq_false h2) | skip
    have h4 : mayPf p c x := by simpa using h2
    have hB6 := h4.1.1
    refine J_skip ?_
    change J _ _ _ _
    refine J_seq ?_
    refine J_region ?_
    refine L_alloc rfl rfl rfl rfl z26pe (fun b2 => ?_)
    refine L_nil ?_
    change J _ _ _ _
    refine J_seq ?_
    refine J_seq ?_
    refine J_region ?_
    refine L_v rfl rfl rfl (V_loadT 0 (vs := sdM p c x s) rfl rfl rfl Tryd.underlying96 rfl sz96pe (by kernel_rfl) (by kernel_rfl)) ?_
    refine L_call rfl rfl rfl rfl tx32pe (fun w1 hw => (rungs_o p c x s w1).mono ?_)
    rintro e w' ⟨b3, rfl, hfr, hsz, hb⟩
    refine ⟨_, _, _, rfl, hw.add hfr hb hsz, rfl, ?_⟩
    refine L_nil ?_
    change J _ _ _ _
    refine J_block ?_
    refine J_toBlk 3 rfl rfl ?_
    refine J_rangeFuncT (Z := Unit) (fun k (_ : Unit) => [(b0, row 96 (sdM p c x s)), (b1, row 26 (dgM root)), (b2, row 26 (dgM (tk p c x k)))]) (fun _ _ => [blkF b3 (row 96 (sdM p c x s)), sbF x.sib s, tabF 1]) () (x.sib.length + 1) (rgV p c x) (rgY p c x w []) rfl rfl rfl tx64pe (fun _ _ => rfl) (by intro q hq; obtain rfl := List.mem_singleton.1 hq; rfl) (fun w1 hw => hw) ?_ ?_ ?_
    · intro D2 l2 r2 w9 hR9 hw9
      exact rg_it { P := Tryd.prog, w0 := w, nt := Tryd.f30.ntmps } (fun k (_ : Unit) => [(b0, row 96 (sdM p c x s)), (b1, row 26 (dgM root)), (b2, row 26 (dgM (tk p c x k)))]) (fun _ _ => [blkF b3 (row 96 (sdM p c x s)), sbF x.sib s, tabF 1]) () D2 l2 r2 b3 p c x s w9 hp hc hsb hx1 hx2 hB6 (fun w0 mods k z w1 h9 => ⟨(h9.2.2.2 _ List.mem_cons_self).1, (h9.2.2.2 _ (List.mem_cons_of_mem _ List.mem_cons_self)).1, (h9.2.2.2 _ (List.mem_cons_of_mem _ (List.mem_cons_of_mem _ List.mem_cons_self))).1⟩) hR9 hw9
    · rintro w1 md D2 l2 r2 k ⟨⟩ y hk hsup
      refine J_region ?_
      refine L_v rfl rfl rfl (V_assign rfl rfl) ?_
      refine L_nil ?_
      refine ⟨[], [blkF b3 (row 96 (sdM p c x s)), sbF x.sib s, tabF 1, rgY p c x w [] k y], rfl, fun w2 hw => (by rw [List.append_nil]; exact hw), ?_⟩
      refine J_block ?_
      refine J_region ?_
      refine L_v rfl rfl rfl (V_fieldAddr rfl rfl Tryd.underlying96 rfl sz3pe rfl) ?_
      refine L_v rfl rfl rfl (V_load1 0 rfl rfl rfl Tryd.underlying3 rfl (by rfl)) ?_
      refine L_v rfl rfl rfl (V_move rfl rfl) ?_
      refine L_callV rfl rfl rfl rfl rfl rfl tx13pe (fun w1 hw => Short_w (upP p c x k) (some ⟨y.1, 0, none⟩) _ _ w1 (hw.fa 3 rfl).1.1 (upP_byt hp hc hsb hx1 hx2 k) (Nat.le_add_right _ _) (hw.fa 2 rfl).1 (by have := upP_len p c x k; omega)) ?_
      refine L_v rfl rfl rfl (V_move rfl rfl) ?_
      refine L_v rfl rfl rfl (V_extract rfl rfl rfl) ?_
      refine L_v rfl rfl rfl (V_extract rfl rfl rfl) ?_
      refine L_storeW 2 rfl rfl rfl rfl rfl rfl (szd sz26pe (by kernel_rfl)) (all_one (by kernel_rfl)) (by kernel_rfl) ?_
      refine L_nil ?_
      exact ⟨(), GS.sub (fun f hf => List.mem_append_left _ hf), fun w1 hw => hw.sub (List.Sublist.refl _) (fun f hf => List.mem_append_left _ hf)⟩
    · rintro D2 ⟨⟩
      change J _ _ _ _
      change J _ _ _ _
      refine J_seq ?_
      refine J_seq ?_
      refine J_region ?_
      refine L_v rfl rfl rfl (V_loadT 2 (vs := dgM (tk p c x (x.sib.length + 1))) rfl rfl rfl Tryd.underlying26 rfl sz26pe (by kernel_rfl) (by kernel_rfl)) ?_
      refine L_v rfl rfl rfl (V_loadT 1 (vs := dgM root) rfl rfl rfl Tryd.underlying26 rfl sz26pe (by kernel_rfl) (by kernel_rfl)) ?_
      refine L_v rfl rfl rfl (V_neAgg rfl rfl rfl (by kernel_rfl : Tryd.prog.eqGuardType Tryd.prog.depth 26 = false) (fun w => eqDgDO _ _ w) decide_not.symm) ?_
      refine L_nil ?_
      change J _ _ _ _
      refine J_cond rfl (fun h3 => ?_) (fun h3 => ?_)
      ·
        first | (have h3 := of_decide_eq_true h3) | (have h3 := of_decide_eq_false h3) | skip
        refine J_seq ?_
        refine J_region ?_
        refine L_v rfl rfl rfl (V_assign rfl rfl) ?_
        refine L_nil ?_
        change J _ _ _ _
        refine J_ret ?_
        change KretM _ _ _ Exit.ret _
        refine KretM_mark 3 rfl rfl ?_
        refine ret1 rfl rfl (RV_t rfl) ?_
        exact fun w' h => ⟨congrArg (fun b => Ending.returned (Value.int .i64 b)) (by unfold pchk; rw [if_pos h4]; exact (if_neg h3).symm), h.fr⟩
      ·
        first | (have h3 := of_decide_eq_true h3) | (have h3 := of_decide_eq_false h3) | skip
        refine J_skip ?_
        change J _ _ _ _
        refine J_seq ?_
        refine J_region ?_
        refine L_v rfl rfl rfl (V_assign rfl rfl) ?_
        refine L_nil ?_
        change J _ _ _ _
        refine J_ret ?_
        change KretM _ _ _ Exit.ret _
        refine KretM_mark 3 rfl rfl ?_
        refine ret1 rfl rfl (RV_t rfl) ?_
        exact fun w' h => ⟨congrArg (fun b => Ending.returned (Value.int .i64 b)) (by unfold pchk; rw [if_pos h4]; exact (if_pos (Classical.not_not.1 h3)).symm), h.fr⟩

theorem pCheck_w (p : Dg) (c : Cm) (x : Pf) (s : Sl) (root : Dg) (w : World) (hp : DB p) (hc : DB c.2) (hsb : ∀ f ∈ x.sib, DB f) (hx1 : DB x.path) (hx2 : DB x.val) (f1 : FA w (sbF x.sib s)) (hB : x.sib.length ≤ 1099511627776) (hK : TabK KT 1 w) :
    Calls Tryd.prog 21 #[.int .i64 32, .agg (dgM root).toArray, .agg (dgM p).toArray, .agg (cmM c).toArray, .agg (pfM x s).toArray] w fun e w' => e = .returned (.int .i64 (pchk root p c x)) ∧ Fr [] w w' := by
  refine calls_of (args := [.int .i64 32, .agg (dgM root).toArray, .agg (dgM p).toArray, .agg (cmM c).toArray, .agg (pfM x s).toArray]) ([]) ([]) ([sbF x.sib s, tabF 1]) Tryd.func21 rfl rfl (okFW (.cons f1 (.cons (tab_fa hK) .nil))) ?_
  refine J_seq ?_
  refine J_region ?_
  refine L_box rfl rfl rfl rfl rfl (fun b0 => ?_)
  refine L_box rfl rfl rfl rfl rfl (fun b1 => ?_)
  refine L_box rfl rfl rfl rfl rfl (fun b2 => ?_)
  refine L_box rfl rfl rfl rfl rfl (fun b3 => ?_)
  refine L_v rfl rfl rfl (V_assign rfl rfl) ?_
  refine L_nil ?_
  change J _ _ _ _
  refine J_seq ?_
  refine J_region ?_
  refine L_v rfl rfl rfl (V_move rfl rfl) ?_
  refine L_v rfl rfl rfl (V_loadT 1 (vs := dgM p) rfl rfl rfl Tryd.underlying26 rfl sz26pe (by kernel_rfl) (by kernel_rfl)) ?_
  refine L_v rfl rfl rfl (V_loadT 2 (vs := cmM c) rfl rfl rfl Tryd.underlying54 rfl sz54pe (by kernel_rfl) (by kernel_rfl)) ?_
  refine L_v rfl rfl rfl (V_loadT 3 (vs := pfM x s) rfl rfl rfl Tryd.underlying28 rfl sz28pe (by kernel_rfl) (by kernel_rfl)) ?_
  refine L_v rfl rfl rfl (V_buildE (v := .agg (sdM p c x s).toArray) rfl rfl (fun w => by kernel_rfl)) ?_
  refine L_v rfl rfl rfl (V_loadT 0 (vs := dgM root) rfl rfl rfl Tryd.underlying26 rfl sz26pe (by kernel_rfl) (by kernel_rfl)) ?_
  refine L_callV rfl rfl rfl rfl rfl rfl tx30pe (fun w1 hw => pchk_w p c x s root w1 hp hc hsb hx1 hx2 (hw.fa 0 rfl) hB (hw.fa 1 rfl).1) ?_
  refine L_v rfl rfl rfl (V_assign rfl rfl) ?_
  refine L_nil ?_
  change J _ _ _ _
  refine J_ret ?_
  change Kret _ _ _ Exit.ret _
  refine ret1 rfl rfl (RV_t rfl) ?_
  exact fun w' h => ⟨rfl, h.fr⟩

end Go.Proofs.YtfdmjjhgdbpfeaaDoor
