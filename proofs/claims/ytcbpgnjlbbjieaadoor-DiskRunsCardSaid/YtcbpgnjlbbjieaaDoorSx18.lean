/- More rules: rows of one's own that begin somewhere in their block; calls that turn blocks of one's own and tell of new ones. -/
import Derived.Test.YtcbpgnjlbbjieaaDoorSx17
set_option linter.unusedVariables false
set_option linter.unusedSimpArgs false
namespace Go.Sx
open Go
/-- A block, what lies before, the room, what lies behind. -/
abbrev OwnP := Option (Nat × List Value × Nat × List Value)
def pA : OwnP → Option Addr
  | none => none
  | some (g, pre, _, _) => some ⟨g, pre.length, none⟩
def pC : OwnP → Nat
  | none => 0
  | some (_, _, c, _) => c
def pV (q : OwnP) (n : Nat) : Value := .slice (pA q) n (pC q)
def pM (e : TypeId) (q : OwnP) (ks : List Value) : Mem := match q with
  | none => []
  | some (g, pre, _, r) => [(g, row e (pre ++ (ks ++ r)))]
def PC (sz : Nat) (q : OwnP) (n : Nat) (ks : List Value) : Prop := match q with
  | none => n = 0 ∧ ks = []
  | some (_, _, c, r) => ks.length = n * sz ∧ n ≤ c ∧ (c - n) * sz ≤ r.length
def ofR : OwnR → OwnP
  | none => none
  | some (g, c, r) => some (g, [], c, r)
theorem ofR_V (q : OwnR) (n : Nat) : pV (ofR q) n = ownV q n := by rcases q with _ | ⟨g, c, r⟩ <;> rfl
theorem ofR_M (e : TypeId) (q : OwnR) (ks : List Value) : pM e (ofR q) ks = ownM e q ks := by rcases q with _ | ⟨g, c, r⟩ <;> rfl
theorem ofR_C {sz n : Nat} {q : OwnR} {ks : List Value} (h : OwnC sz q n ks) : PC sz (ofR q) n ks := by
  rcases q with _ | ⟨g, c, r⟩
  · exact h
  · exact ⟨h.1, h.2.1, Nat.le_of_eq h.2.2.symm⟩
theorem PC.len {sz n : Nat} {q : OwnP} {ks : List Value} (h : PC sz q n ks) : ks.length = n * sz := by
  rcases q with _ | ⟨g, pre, c, r⟩
  · rw [h.1, h.2, Nat.zero_mul]; rfl
  · exact h.1
theorem PC.le {sz n : Nat} {q : OwnP} {ks : List Value} (h : PC sz q n ks) : n ≤ pC q := by
  rcases q with _ | ⟨g, pre, c, r⟩
  · rw [h.1]; exact Nat.le_refl _
  · exact h.2.1
theorem pM_at {m : Mem} {e : TypeId} {g c : Nat} {pre r ks : List Value} (hm : ∀ p ∈ pM e (some (g, pre, c, r)) ks, p ∈ m) : (g, row e (pre ++ (ks ++ r))) ∈ m := hm _ (List.mem_singleton.2 rfl)
theorem PC.slT {cx : Cx} {sz n : Nat} {m : Mem} {fs : List Fact} {w : World} {e : TypeId} {q : OwnP} {ks : List Value} (h : OkW cx m fs w) (hm : ∀ p ∈ pM e q ks, p ∈ m) (hq : PC sz q n ks) : SlT e sz w (pV q n) n ks := by
  rcases q with _ | ⟨g, pre, c, r⟩
  · exact .inl ⟨hq.1, hq.2, none, 0, by rw [hq.1]; rfl⟩
  · exact .inr ⟨g, pre, r, c, rfl, hq.1, h.mem _ _ (pM_at hm)⟩
theorem PC.slC {cx : Cx} {sz n : Nat} {m : Mem} {fs : List Fact} {w : World} {e : TypeId} {q : OwnP} {ks : List Value} (h : OkW cx m fs w) (hm : ∀ p ∈ pM e q ks, p ∈ m) (hq : PC sz q n ks) : SlC sz w (pV q n) n ks := (hq.slT h hm).toC
/-! ### Parts -/
def pTake (sz h : Nat) (ks : List Value) : OwnP → OwnP
  | none => none
  | some (g, pre, c, r) => some (g, pre, c, ks.drop (h * sz) ++ r)
theorem pTake_V (sz h : Nat) (ks : List Value) (q : OwnP) : pV (pTake sz h ks q) h = .slice (pA q) h (pC q) := by rcases q with _ | ⟨g, pre, c, r⟩ <;> rfl
theorem pTake_M (e : TypeId) (sz h : Nat) (ks : List Value) (q : OwnP) : pM e (pTake sz h ks q) (ks.take (h * sz)) = pM e q ks := by
  rcases q with _ | ⟨g, pre, c, r⟩
  · rfl
  · show [(g, row e (pre ++ (ks.take (h * sz) ++ (ks.drop (h * sz) ++ r))))] = _
    rw [← List.append_assoc (ks.take _), List.take_append_drop]
    rfl
theorem pTake_C {sz h n : Nat} {ks : List Value} {q : OwnP} (hq : PC sz q n ks) (hh : h ≤ n) : PC sz (pTake sz h ks q) h (ks.take (h * sz)) := by
  rcases q with _ | ⟨g, pre, c, r⟩
  · obtain ⟨rfl, rfl⟩ := hq
    exact ⟨by omega, List.take_nil⟩
  · obtain ⟨h1, h2, h3⟩ := hq
    have hm : h * sz ≤ n * sz := Nat.mul_le_mul_right _ hh
    refine ⟨by rw [List.length_take, h1]; omega, by omega, ?_⟩
    rw [List.length_append, List.length_drop, h1]
    have e : c - h = (c - n) + (n - h) := by omega
    rw [e, Nat.add_mul, Nat.sub_mul n h]
    omega
def pDrop (sz l : Nat) (ks : List Value) : OwnP → OwnP
  | none => none
  | some (g, pre, c, r) => if c = l then some (g, pre, 0, ks ++ r) else some (g, pre ++ ks.take (l * sz), c - l, r)
theorem pDrop_V {sz l n : Nat} {ks : List Value} {q : OwnP} (hq : PC sz q n ks) (hl : l ≤ n) : pV (pDrop sz l ks q) (n - l) = .slice (if pC q = l then pA q else (pA q).map (·.add (l * sz))) (n - l) (pC q - l) := by
  rcases q with _ | ⟨g, pre, c, r⟩
  · obtain ⟨rfl, rfl⟩ := hq
    obtain rfl : l = 0 := by omega
    rfl
  · obtain ⟨h1, h2, h3⟩ := hq
    show pV (if c = l then _ else _) _ = Value.slice (if c = l then some _ else _) _ (c - l)
    split
    · rename_i hc
      subst hc
      show Value.slice _ _ 0 = Value.slice _ _ (c - c)
      rw [Nat.sub_self]
      rfl
    · have hm : l * sz ≤ n * sz := Nat.mul_le_mul_right _ hl
      show Value.slice (some ⟨g, (pre ++ ks.take (l * sz)).length, none⟩) _ _ = Value.slice (some (Addr.add ⟨g, pre.length, none⟩ (l * sz))) _ _
      rw [add_at, List.length_append, List.length_take, h1, Nat.min_eq_left hm]
      rfl
theorem pDrop_M {sz l n : Nat} {ks : List Value} {q : OwnP} (e : TypeId) (hq : PC sz q n ks) (hl : l ≤ n) : pM e (pDrop sz l ks q) (ks.drop (l * sz)) = pM e q ks := by
  rcases q with _ | ⟨g, pre, c, r⟩
  · rfl
  · obtain ⟨h1, h2, h3⟩ := hq
    show pM e (if c = l then _ else _) _ = _
    split
    · rename_i hc
      obtain rfl : n = l := by omega
      show [(g, row e (pre ++ (ks.drop (n * sz) ++ (ks ++ r))))] = _
      rw [List.drop_eq_nil_of_le (by omega)]
      rfl
    · show [(g, row e ((pre ++ ks.take (l * sz)) ++ (ks.drop (l * sz) ++ r)))] = _
      rw [List.append_assoc, ← List.append_assoc (ks.take _), List.take_append_drop]
      rfl
theorem pDrop_C {sz l n : Nat} {ks : List Value} {q : OwnP} (hq : PC sz q n ks) (hl : l ≤ n) : PC sz (pDrop sz l ks q) (n - l) (ks.drop (l * sz)) := by
  rcases q with _ | ⟨g, pre, c, r⟩
  · obtain ⟨rfl, rfl⟩ := hq
    exact ⟨by omega, List.drop_nil⟩
  · obtain ⟨h1, h2, h3⟩ := hq
    show PC sz (if c = l then _ else _) _ _
    split
    · rename_i hc
      obtain rfl : n = l := by omega
      rw [List.drop_eq_nil_of_le (by omega), Nat.sub_self]
      exact ⟨by simp, Nat.le_refl _, by simp⟩
    · refine ⟨by rw [List.length_drop, h1, Nat.sub_mul], by omega, ?_⟩
      rw [show c - l - (n - l) = c - n by omega]
      exact h3
/-! ### Appending -/
theorem run_append_room_off {P : Program} (w : World) (t tx ty e : TypeId) (i : TypeInfo) (ht : P.underlying t = some (.slice e)) (hi : P.info? e = some i) (b off sLen sCap : Nat) (x : Value) (n : Nat) (cur news : List Value) (hs : Src P i.size tx x n news w)
    (hroom : sLen + n ≤ sCap) (hg : w.heap[b]? = some (row e cur)) (hfit : off + sLen * i.size + news.length ≤ cur.length) :
    (Builtin.append_ #[t, tx] ty #[.slice (some ⟨b, off, none⟩) sLen sCap, x]).run P w = .ok (.slice (some ⟨b, off, none⟩) (sLen + n) sCap) (w.setRow b (cur.take (off + sLen * i.size) ++ news ++ cur.drop (off + sLen * i.size + news.length)).toArray) := by
  have hst := run_storeCells_at P b (off + sLen * i.size) e news 0 cur.toArray w hg (by simpa using hfit) hs.one
  simp only [Nat.add_zero] at hst
  rcases hs.kind with ⟨e', hk⟩ | hk <;> simp [Builtin.append_, run_underlying ht, run_underlying hk, sizeOf, typeInfo, hi, hs.len, hroom, hs.cells, add_at, hst]
theorem storedAt (pre ks r0 news : List Value) : (pre ++ (ks ++ r0)).take (pre.length + ks.length) ++ news ++ (pre ++ (ks ++ r0)).drop (pre.length + ks.length + news.length) = pre ++ ((ks ++ news) ++ r0.drop news.length) := by
  rw [← List.append_assoc pre, List.take_left' (List.length_append ..), ← List.drop_drop, List.drop_left' (List.length_append ..)]
  simp only [List.append_assoc]
section
variable {cx : Cx} {ops : Array Oper} {K : St → Prop} {o : Oper} {rest : List Oper} {st : St}
theorem S_appendP {args : Array Operand} {t tx e : TypeId} (m1 m2 : Mem) (q : OwnP) (ks : List Value) {d size bytes n m : Nat} {z x : Value} {news : List Value} (ho : o.op = .call { callee := .builtin .append, args := args, argTypes := #[t, tx] }) (hd : o.dst = some d) (hlt : Nat.blt d cx.nt = true)
    (hv : evs st.env args.toList = some [pV q n, x]) (ht : cx.P.underlying t = some (.slice e)) (he : ElemOf cx.P e size bytes z) (hm : st.mem = m1 ++ (pM e q ks ++ m2)) (hq : PC size q n ks)
    (hsrc : SrcAt cx st size tx x m news) (hb : (n + m) * bytes ≤ 140737488355328) (h63 : n + m ≤ 9223372036854775807)
    (h : ∀ q', PC size q' (n + m) (ks ++ news) → K { st with env := (d, pV q' (n + m)) :: st.env, mem := m1 ++ (pM e q' (ks ++ news) ++ m2) }) : S cx o K st := by
  intro Q next a w hok hk
  have hnl := (hsrc w hok.w).newsLen
  rcases q with _ | ⟨b, pre, cap, r0⟩
  · refine S_appendN m1 m2 none ks (n := n) (m := m) (x := x) (news := news) ho hd hlt hv ht he hm hq hsrc hb h63 (fun q' hq' => ?_) Q next a w hok hk
    have h1 := h (ofR q') (ofR_C hq')
    rw [ofR_V, ofR_M] at h1
    exact h1
  · obtain ⟨hks, hnc, hr0⟩ := hq
    have hkn : (ks ++ news).length = (n + m) * size := by rw [List.length_append, hks, hnl, Nat.add_mul]
    have hin : (b, row e (pre ++ (ks ++ r0))) ∈ st.mem := by rw [hm]; simp [pM]
    by_cases hcap : cap < n + m
    · refine S_appendG (n := n) (cap := cap) (olds := ks) (m := m) (news := news) (x := x) (ao := some ⟨b, pre.length, none⟩) ho hd hlt hv ht he (fun w1 hw1 => SlC.first (SlT.toC (T := e) (.inr ⟨b, pre, r0, cap, rfl, hks, hw1.mem _ _ hin⟩))) hsrc hcap hb h63
        (K := fun s => ∃ q', PC size q' (n + m) (ks ++ news) ∧ s = { st with env := (d, pV q' (n + m)) :: st.env, mem := st.mem ++ pM e q' (ks ++ news) }) (fun g c r hc hr => ?_) Q next a w hok ?_
      · exact ⟨some (g, [], c, r), ⟨hkn, hc, Nat.le_of_eq hr.symm⟩, rfl⟩
      · rintro st' a' w' hok' ⟨q', hq', rfl⟩
        refine hk { st with env := (d, pV q' (n + m)) :: st.env, mem := m1 ++ (pM e q' (ks ++ news) ++ m2) } a' w' ⟨hok'.a, ?_⟩ (h q' hq')
        refine hok'.w.pk (Pk.of_perm (l := m1 ++ (m2 ++ pM e q' (ks ++ news))) (List.Perm.append_left _ List.perm_append_comm) ?_) (fun f hf => hf)
        show List.Sublist _ (st.mem ++ pM e q' (ks ++ news))
        rw [hm, List.append_assoc, List.append_assoc]
        exact List.Sublist.append (List.Sublist.refl _) (List.sublist_append_right _ _)
    · obtain ⟨⟨ti, hti, hz, hs, hby⟩, hzs⟩ := he
      have hh := hok.w.mem _ _ hin
      have hsr := hsrc w hok.w
      have hmul : (n + m) * size ≤ cap * size := Nat.mul_le_mul_right _ (by omega)
      have hfit : pre.length + n * ti.size + news.length ≤ (pre ++ (ks ++ r0)).length := by
        rw [hs, List.length_append, List.length_append, hks, hnl]
        have := Nat.sub_mul cap n size
        have := Nat.add_mul n m size
        omega
      have hr := run_append_room_off (P := cx.P) w t tx o.type e ti ht hti b pre.length n cap x m (pre ++ (ks ++ r0)) news (by rw [hs]; exact hsr) (by omega) hh hfit
      refine wpIn_value (nd ho (fun c h => by cases h)) (run_append_op hok.a ho hv hr) ?_
      rw [hd]
      have hrl : (cap - (n + m)) * size ≤ (r0.drop news.length).length := by
        rw [List.length_drop, hnl, show cap - (n + m) = cap - n - m by omega, Nat.sub_mul (cap - n) m]
        omega
      refine hk _ _ _ ⟨hok.a.put hlt _, ?_⟩ (h (some (b, pre, cap, r0.drop news.length)) ⟨hkn, by omega, hrl⟩)
      have hi : st.mem[m1.length]? = some (b, row e (pre ++ (ks ++ r0))) := by
        rw [hm, List.getElem?_append_right (Nat.le_refl _), Nat.sub_self]
        rfl
      have h2 := hok.w.swap (p' := row e (pre ++ ((ks ++ news) ++ r0.drop news.length))) (g := b) hi (Fr.setRow (w := w) (b := b) ((pre ++ (ks ++ r0)).take (pre.length + n * ti.size) ++ news ++ (pre ++ (ks ++ r0)).drop (pre.length + n * ti.size + news.length)).toArray) (by
        rw [setRow_same w b _ _ e (0, 0) hh]
        rw [hs, ← hks, storedAt]) (.inl rfl)
      have e1 : swapMem st.mem m1.length b (row e (pre ++ ((ks ++ news) ++ r0.drop news.length))) = m1 ++ (pM e (some (b, pre, cap, r0.drop news.length)) (ks ++ news) ++ m2) := by
        rw [hm]
        unfold swapMem
        rw [List.set_append_right _ _ (Nat.le_refl _), Nat.sub_self]
        rfl
      rw [e1] at h2
      exact h2
/-! ### What such a call comes to -/
/-- Of these blocks others came; new facts are told. -/
structure Upd (m : Mem) (w w' : World) (l : Mem) (gs : List Fact) : Prop where
  fr : Fr (m.map (·.1)) w w'
  at_ : MemAt w' l
  may : ∀ k ∈ l.map (·.1), k ∈ m.map (·.1) ∨ w.heap.size ≤ k
  fa : ∀ f ∈ gs, NewF w w' f
  dis : ∀ f ∈ gs, ∀ k, f.fp k → k ∉ l.map (·.1)
theorem OkW.upd {m1 m : Mem} {fs : List Fact} {w w' : World} {l : Mem} {gs : List Fact} (h : OkW cx (m1 ++ m) fs w) (hu : Upd m w w' l gs) : OkW cx (m1 ++ l) (fs ++ gs) w' := by
  have h1 := h.ref (Ms := fun _ : Unit => l) (z := ()) hu.fr hu.at_ hu.may
  refine ⟨h1.mem, h1.dis, h1.may, fun f hf => ?_, h1.fr⟩
  rcases List.mem_append.1 hf with h2 | h2
  · exact h1.facts f h2
  · have h3 := hu.fa f h2
    refine ⟨h3.fa.1, fun k hk => ⟨h3.fa.2 k hk, fun hkm => ?_⟩⟩
    rw [List.map_append] at hkm
    rcases List.mem_append.1 hkm with h4 | h4
    · have := h.lt (show k ∈ (m1 ++ m).map (·.1) by rw [List.map_append]; exact List.mem_append_left _ h4)
      have := h3.new k hk
      omega
    · exact hu.dis f h2 k hk h4
theorem Upd.of {m mem l : Mem} {fs gs : List Fact} {w : World} (h : OkW cx mem fs w) (hm : cx.mods = m.map (·.1)) (hl : Pk l mem) (hg : ∀ f ∈ gs, f ∈ fs) (hn : ∀ f ∈ gs, ∀ k, f.fp k → cx.w0.heap.size ≤ k) : Upd m cx.w0 w l gs := by
  have h2 := h.pk hl hg
  exact ⟨hm ▸ h.fr, ⟨h2.mem, h2.dis⟩, fun k hk => by
    rcases h2.may k hk with h3 | h3
    · exact .inr h3
    · rw [hm] at h3
      exact .inl h3, fun f hf => ⟨⟨(h2.facts f hf).1, fun k hk => ((h2.facts f hf).2 k hk).1⟩, hn f hf⟩, fun f hf k hk => ((h2.facts f hf).2 k hk).2⟩
/-- Nothing turned. -/
theorem Upd.none {m : Mem} {w w' : World} (hm : MemAt w m) (hfr : Fr [] w w') : Upd m w w' m [] :=
  ⟨hfr.mono (by simp), ⟨fun b o hb => (hfr.block b (Array.getElem?_eq_some_iff.1 (hm.1 b o hb)).1 (by simp)).trans (hm.1 b o hb), hm.2⟩, fun k hk => .inl hk, fun f hf => (by cases hf), fun f hf => (by cases hf)⟩
theorem NewL.upd {w w' : World} {l : Mem} {gs : List Fact} (hfr : Fr [] w w') (h : NewL w w' l gs) : Upd [] w w' l gs :=
  ⟨hfr, ⟨fun b o hb => (h.at_ b o hb).1, h.nd⟩, fun k hk => by
    obtain ⟨⟨g, o⟩, hg, rfl⟩ := List.mem_map.1 hk
    exact .inr (h.at_ g o hg).2, h.fa, h.dis⟩
theorem Upd.newL {w w' : World} {l : Mem} {gs : List Fact} (h : Upd [] w w' l gs) : NewL w w' l gs where
  at_ g o hg := ⟨h.at_.1 g o hg, by
    rcases h.may g (List.mem_map.2 ⟨_, hg, rfl⟩) with h1 | h1
    · cases h1
    · exact h1⟩
  nd := h.at_.2
  fa := h.fa
  dis := h.dis
theorem L_pkF {l : List Oper} (m' : Mem) (fs' : List Fact) (hp : Pk m' st.mem) (hf : ∀ f ∈ fs', f ∈ st.facts) (h : L cx ops K l { st with mem := m', facts := fs' }) : L cx ops K l st :=
  fun Q a w ho hk => h Q a w ⟨ho.a, ho.w.pk hp hf⟩ hk
theorem LO_pk {m0 : Mem} {f0 : List Fact} {ord : Ord} (m' : Mem) (hp : Pk m' st.mem) (h : LO cx m0 f0 ops K ord { st with mem := m' }) : LO cx m0 f0 ops K ord st :=
  fun a w ho => h a w ⟨ho.a, ho.w.pk hp (fun f hf => hf)⟩
/-- One that would turn the world is passed over. -/
theorem LO_skipL {m0 : Mem} {f0 : List Fact} {r : Ord} {k t j dj : Nat} {want : Bool} {u : Value} (hk : ops[k]? = some o) (hg : o.guard = some (j, want)) (hj : (ops[j]?).bind (·.dst) = some dj) (hdj : Nat.blt dj cx.nt = true) (hvj : get st.env dj = some u) (hb : isB want u = false)
    (ht : o.dst = some t) (htl : Nat.blt t cx.nt = true) (hp : Pk m0 st.mem) (hf : ∀ f ∈ f0, f ∈ st.facts) (h : LO cx m0 f0 ops K r (st.put t undef)) : LO cx m0 f0 ops K (.one k r) st := by
  intro a w ho
  show wpOpIn _ _ _ _ _ _ _ _ _
  unfold wpOpIn
  simp only [hk]
  rw [if_neg (by rw [wanted_eq ho.a hg hj hdj hvj, hb]; decide)]
  rw [ht]
  exact ⟨fun _ _ => trivial, ho.w.pk hp hf, h _ _ (ho.put htl undef)⟩
theorem Pk.front (m : Mem) (x : Nat × Obj) : Pk (x :: m) (m ++ [x]) := Pk.of_perm (l := m ++ [x]) List.perm_append_comm (List.Sublist.refl _)
end
/-- A row of one's own, as a fact beside other blocks. -/
theorem PC.fm {cx : Cx} {sz n : Nat} {m1 m : Mem} {fs : List Fact} {w : World} {e : TypeId} {q : OwnP} {ks : List Value} (h : OkW cx (m1 ++ m) fs w) (hm : ∀ p ∈ pM e q ks, p ∈ m1) (hq : PC sz q n ks) : (factC sz (.slice (pA q) n (pC q)) n ks).p w ∧ ∀ k, (factC sz (.slice (pA q) n (pC q)) n ks).fp k → k < w.heap.size ∧ k ∉ m.map (·.1) := by
  have h1 := hq.slC h (fun p hp => List.mem_append_left _ (hm p hp))
  refine ⟨h1, fun k hk => ⟨factC_lt h1 k hk, fun hkm => ?_⟩⟩
  obtain ⟨hne, off, n', c', e'⟩ := hk
  rcases q with _ | ⟨g, pre, c, r⟩
  · exact hne hq.2
  · simp only [pA, Value.slice.injEq, Option.some.injEq, Addr.mk.injEq] at e'
    obtain rfl : g = k := e'.1.1
    have hd := h.dis
    rw [List.map_append, List.nodup_append] at hd
    exact hd.2.2 g (List.mem_map.2 ⟨_, hm _ (List.mem_singleton.2 rfl), rfl⟩) g hkm rfl
theorem OkW.deriv {cx : Cx} {m : Mem} {fs : List Fact} {w : World} (h : OkW cx m fs w) {f : Fact} (hp : f.p w) (hf : ∀ k, f.fp k → ∃ g ∈ fs, g.fp k) : OkW cx m (fs ++ [f]) w :=
  ⟨h.mem, h.dis, h.may, fun g hg => by
    rcases List.mem_append.1 hg with h1 | h1
    · exact h.facts g h1
    · obtain rfl := List.mem_singleton.1 h1
      refine ⟨hp, fun k hk => ?_⟩
      obtain ⟨g, hg, hk⟩ := hf k hk
      exact (h.facts g hg).2 k hk, h.fr⟩
/-- A row of one's own that is new, as a fact. -/
theorem PC.newF {w w' : World} {sz n : Nat} {e : TypeId} {q : OwnP} {ks : List Value} (hq : PC sz q n ks) (hm : ∀ g o, (g, o) ∈ pM e q ks → w'.heap[g]? = some o ∧ w.heap.size ≤ g) : NewF w w' (factC sz (.slice (pA q) n (pC q)) n ks) := by
  rcases q with _ | ⟨g, pre, c, r⟩
  · obtain ⟨rfl, rfl⟩ := hq
    exact ⟨.slc (.inl ⟨rfl, rfl, _, _, rfl⟩), fun k hk => absurd rfl hk.1⟩
  · obtain ⟨h1, h2⟩ := hm g _ (List.mem_singleton.2 rfl)
    refine ⟨.slc (SlT.toC (T := e) (.inr ⟨g, pre, r, c, rfl, hq.1, h1⟩)), fun k hk => ?_⟩
    obtain ⟨_, off, n', c', e'⟩ := hk
    simp only [pA, Value.slice.injEq, Option.some.injEq, Addr.mk.injEq] at e'
    obtain rfl : g = k := e'.1.1
    exact h2
/-- A row of one's own is from now on only told of. -/
theorem J_toFactP {cx : Cx} {c : Code} {K : Exit → St → Prop} {st : St} {e : TypeId} {sz n : Nat} (m1 : Mem) (q : OwnP) (ks : List Value) (hm : st.mem = m1 ++ pM e q ks) (hq : PC sz q n ks) (h : J cx c K { st with mem := m1, facts := st.facts ++ [factC sz (.slice (pA q) n (pC q)) n ks] }) : J cx c K st := by
  intro a w ho
  refine h a w ⟨ho.a, ?_⟩
  have h0 := ho.w
  rw [hm] at h0
  have h1 : OkW cx (pM e q ks ++ m1) st.facts w := h0.perm List.perm_append_comm
  have h2 := h0.sub (List.sublist_append_left _ _) (fun f hf => hf)
  refine ⟨h2.mem, h2.dis, h2.may, fun f hf => ?_, h2.fr⟩
  rcases List.mem_append.1 hf with h3 | h3
  · exact h2.facts f h3
  · obtain rfl := List.mem_singleton.1 h3
    exact PC.fm h1 (fun p hp => hp) hq
/-- A fact that follows from others. -/
theorem J_deriv {cx : Cx} {c : Code} {K : Exit → St → Prop} {st : St} (f : Fact) (hp : ∀ w, OkW cx st.mem st.facts w → f.p w) (hf : ∀ k, f.fp k → ∃ g ∈ st.facts, g.fp k) (h : J cx c K { st with facts := st.facts ++ [f] }) : J cx c K st :=
  fun a w ho => h a w ⟨ho.a, ho.w.deriv (hp w ho.w) hf⟩
end Go.Sx
