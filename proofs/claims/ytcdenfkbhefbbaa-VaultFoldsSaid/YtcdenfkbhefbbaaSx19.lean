/- More rules: numbers laid over what is only told of. -/
import Derived.Test.YtcdenfkbhefbbaaSx18
set_option linter.unusedVariables false
set_option linter.unusedSimpArgs false
namespace Go.Sx
open Go
/-- The block is as it was in the other world, but that numbers may be others. -/
def Shp (w1 w : World) (b : Nat) : Prop := ∃ (T : TypeId) (c c' : List Value), w1.heap[b]? = some (row T c) ∧ w.heap[b]? = some (row T c') ∧ c'.length = c.length ∧ ∀ (k : Nat) (x : Value), c[k]? = some x → c'[k]? = some x ∨ ∃ i j : Int, x = .int .i64 i ∧ c'[k]? = some (.int .i64 j)
def pokeF (D : Nat → Prop) (w1 : World) : Fact where
  fp := D
  p w := ∀ b, D b → Shp w1 w b
  dep w w' h hp b hb := by
    obtain ⟨T, c, c', h1, h2, h3⟩ := hp b hb
    exact ⟨T, c, c', h1, by rw [h b hb]; exact h2, h3⟩
theorem cell_row {w : World} {b off : Nat} {T : TypeId} {c : List Value} {v : Value} (h : w.heap[b]? = some (row T c)) (hc : w.cell? ⟨b, off, none⟩ = some v) : c[off]? = some v := by
  simp only [World.cell?, h] at hc
  simpa using hc
theorem row_cell {w : World} {b off : Nat} {T : TypeId} {c : List Value} {v : Value} (h : w.heap[b]? = some (row T c)) (hc : c[off]? = some v) : w.cell? ⟨b, off, none⟩ = some v := cell_of h (by simpa using hc)
theorem pokeF_cell {D : Nat → Prop} {w1 w : World} (h : (pokeF D w1).p w) {b off : Nat} {v : Value} (hD : D b) (hv : ∀ i, v ≠ .int .i64 i) (hc : w1.cell? ⟨b, off, none⟩ = some v) : w.cell? ⟨b, off, none⟩ = some v := by
  obtain ⟨T, c, c', h1, h2, h3, h4⟩ := h b hD
  rcases h4 off v (cell_row h1 hc) with h5 | ⟨i, j, h5, _⟩
  · exact row_cell h2 h5
  · exact absurd h5 (hv i)
section
variable {cx : Cx} {o : Oper} {st : St}
theorem V_loadK {t : TypeId} {x : Operand} {d : TypeDesc} {b off : Nat} {v : Value} {D : Nat → Prop} {w1 : World} (ho : o.op = .load t x) (hx : ev st.env x = some (.pointer (some ⟨b, off, none⟩))) (hu : cx.P.underlying t = some d) (hs : scalarB d = true)
    (hm : pokeF D w1 ∈ st.facts) (hD : D b) (hv : ∀ i, v ≠ .int .i64 i) (hc : w1.cell? ⟨b, off, none⟩ = some v) : V cx o st v :=
  V_load ho hx hu hs fun w hw => pokeF_cell (hw.facts _ hm).1 hD hv hc
theorem V_indexA {t : TypeId} {x y : Operand} {k : IntKind} {len cap sz b off : Nat} {a : Option Addr} {e : TypeId} {n : Int} {off' : Nat} (ho : o.op = .indexAddr t x y) (hx : ev st.env x = some (.slice a len cap)) (ha : a = some ⟨b, off, none⟩) (hy : ev st.env y = some (.int k n))
    (hu : cx.P.underlying t = some (.slice e)) (hz : (cx.P.info? e).map (·.size) = some sz) (h0 : 0 ≤ n) (h1 : n < len) (he : off + n.toNat * sz = off') : V cx o st (.pointer (some ⟨b, off', none⟩)) :=
  V_indexSl ho (ha ▸ hx) hy hu hz h0 h1 he
/-- A number laid over a number. -/
theorem L_poke {ops : Array Oper} {K : St → Prop} {rest : List Oper} {t : TypeId} {x y : Operand} {D : Nat → Prop} {w1 : World} {b off : Nat} {i j : Int} (hg : o.guard = none) (ho : o.op = .store t x y) (hd : o.dst = none) (hx : ev st.env x = some (.pointer (some ⟨b, off, none⟩))) (hy : ev st.env y = some (.int .i64 j))
    (hz : (cx.P.info? t).map (·.size) = some 1) (hm : pokeF D w1 ∈ st.facts) (hD : D b) (hc : w1.cell? ⟨b, off, none⟩ = some (.int .i64 i)) (hf : ∀ f ∈ st.facts, f = pokeF D w1 ∨ ∀ k, f.fp k → ¬ D k) (hN : ∀ k, D k → cx.w0.heap.size ≤ k)
    (h : L cx ops K rest st) : L cx ops K (o :: rest) st := by
  refine L_cons hg fun Q next a w hok hk => ?_
  have hp := hok.w.facts _ hm
  obtain ⟨T, c, c', h1, h2, h3, h4⟩ := hp.1 b hD
  have hoff : off < c'.length := by
    have := (List.getElem?_eq_some_iff.1 (cell_row h1 hc)).1
    omega
  have hst := run_storeCells_at cx.P b off T [.int .i64 j] 0 c'.toArray w h2 (by simp; omega) (fun u hu => by obtain rfl := List.mem_singleton.1 hu; rfl)
  have hl : c'.take off ++ [Value.int .i64 j] ++ c'.drop (off + 1) = c'.set off (.int .i64 j) := by
    rw [List.set_eq_take_append_cons_drop, if_pos hoff]
    simp
  have hr : (execOp a.eval o).run cx.P w = .ok .skip (w.setRow b (c'.set off (.int .i64 j)).toArray) := by
    unfold execOp; rw [ho]
    simp only [hok.a.ev hx, hok.a.ev hy, Instr.storeAt, Instr.sureAddr, Sem.run_bind, Sem.run_pure, Result.andThen_ok, storeVar, run_sizeOf hz, show (Value.int .i64 j).cells = [Value.int .i64 j].toArray from rfl]
    simp only [List.size_toArray, List.length_singleton, ne_eq, not_true_eq_false, if_false, Sem.run_pure, Result.andThen_ok, Sem.run_bind]
    simp only [Nat.add_zero] at hst
    rw [hst]
    simp only [Result.andThen_ok, List.length_singleton, hl, Sem.run_pure]
  refine wpIn_skip' (nd ho (fun c h => by cases h)) hr ?_
  rw [hd]
  have hfr : Fr [b] w (w.setRow b (c'.set off (.int .i64 j)).toArray) := Fr.setRow _
  have oth : ∀ k, k < w.heap.size → k ≠ b → (w.setRow b (c'.set off (.int .i64 j)).toArray).heap[k]? = w.heap[k]? := fun k hk hne => hfr.block k hk (by simpa using hne)
  refine hk st _ _ ⟨hok.a, fun b' p hb' => ?_, hok.w.dis, hok.w.may, fun f hf' => ?_, hok.w.fr.step hfr fun x hx => .inl (by obtain rfl := List.mem_singleton.1 hx; exact hN _ hD)⟩ h
  · have hin : b' ∈ st.mem.map (·.1) := List.mem_map.2 ⟨_, hb', rfl⟩
    rw [oth b' (hok.w.lt hin) (fun e => (hp.2 b hD).2 (e ▸ hin))]
    exact hok.w.mem b' p hb'
  · have hff := hok.w.facts f hf'
    refine ⟨?_, fun k hk => ⟨Nat.lt_of_lt_of_le (hff.2 k hk).1 hfr.size, (hff.2 k hk).2⟩⟩
    rcases hf f hf' with rfl | hdis
    · intro k hk
      by_cases hkb : k = b
      · subst hkb
        refine ⟨T, c, c'.set off (.int .i64 j), h1, setRow_same w k _ _ T (0, 0) h2, by rw [List.length_set]; exact h3, fun n x hx => ?_⟩
        by_cases hn : off = n
        · subst hn
          rw [cell_row h1 hc] at hx
          injection hx with hx
          exact .inr ⟨i, j, hx.symm, by rw [List.getElem?_set_self hoff]⟩
        · rw [List.getElem?_set_ne hn]
          exact h4 n x hx
      · obtain ⟨T, c, c', g1, g2, g3⟩ := hp.1 k hk
        exact ⟨T, c, c', g1, by rw [oth k (hp.2 k hk).1 hkb]; exact g2, g3⟩
    · exact f.dep w _ (fun k hk => oth k (hff.2 k hk).1 (fun e => hdis k hk (e ▸ hD))) hff.1
end
/-- Rows of one's own and what is told of new ones are from now on told of together. -/
theorem J_poke {cx : Cx} {c : Code} {K : Exit → St → Prop} {st : St} (m1 m2 : Mem) (fs gs : List Fact) (D : Nat → Prop) (hm : st.mem = m1 ++ m2) (hf : st.facts = fs ++ gs) (hD : ∀ b, D b → b ∈ m2.map (·.1) ∨ ∃ g ∈ gs, g.fp b)
    (hrow : ∀ w, OkW cx st.mem st.facts w → ∀ b, D b → ∃ T l, w.heap[b]? = some (row T l)) (h : ∀ w1, OkW cx st.mem st.facts w1 → J cx c K { st with mem := m1, facts := fs ++ [pokeF D w1] }) : J cx c K st := by
  intro a w ho
  have h0 := ho.w
  refine h w h0 a w ⟨ho.a, ?_⟩
  have hr := hrow w h0
  rw [hm, hf] at h0
  have h2 := h0.sub (List.sublist_append_left m1 m2) (fun f hf' => List.mem_append_left gs hf')
  refine ⟨h2.mem, h2.dis, h2.may, fun f hf' => ?_, h2.fr⟩
  rcases List.mem_append.1 hf' with h3 | h3
  · exact h2.facts f h3
  · obtain rfl := List.mem_singleton.1 h3
    refine ⟨fun b hb => ?_, fun k hk => ⟨?_, fun hk1 => ?_⟩⟩
    · obtain ⟨T, l, hl⟩ := hr b hb
      exact ⟨T, l, l, hl, hl, rfl, fun k x hx => .inl hx⟩
    · obtain ⟨T, l, hl⟩ := hr k hk
      exact (Array.getElem?_eq_some_iff.1 hl).1
    · rcases hD k hk with h4 | ⟨g, hg, h4⟩
      · have hd := h0.dis
        rw [List.map_append, List.nodup_append] at hd
        exact hd.2.2 k hk1 k h4 rfl
      · refine ((h0.facts g (List.mem_append_right _ hg)).2 k h4).2 ?_
        rw [List.map_append]
        exact List.mem_append_left _ hk1
theorem SlC.elem {sz n cap : Nat} {w : World} {a : Option Addr} {cs : List Value} (h : SlC sz w (.slice a n cap) n cs) {i : Nat} (hi : i < n) : ∃ g o, a = some ⟨g, o, none⟩ ∧ ∀ j x, cs[j]? = some x → w.cell? ⟨g, o + j, none⟩ = some x := by
  rcases h with ⟨rfl, _⟩ | ⟨g, o, c, e, _, hc⟩
  · omega
  · simp only [Value.slice.injEq] at e
    exact ⟨g, o, e.1, hc⟩
end Go.Sx
