/- More rules: a range over a function whose variables are blocks of their own; a description that names a block twice is of no world. -/
import Derived.Test.YtcdenfkbhefbbaaSx2
set_option linter.unusedVariables false
set_option linter.unusedSimpArgs false
namespace Go.Sx
section
variable {cx : Cx}
theorem J_nd {c : Code} {K : Exit → St → Prop} {st : St} (h : (st.mem.map (·.1)).Nodup → J cx c K st) : J cx c K st := fun a w ho => h ho.w.dis a w ho
theorem nd_app {A B : Mem} (h : ((A ++ B).map (·.1)).Nodup) : (A.map (·.1)).Nodup := by
  rw [List.map_append, List.nodup_append] at h
  exact h.1
theorem J_rangeFuncX {Z X : Type} {K : Exit → St → Prop} {st : St} {g : Operand} {ps : Array Tmp} {assign body : Code} {gf : FuncId} {lb : Array Value}
    (M : Nat → Z → Mem) (Ms : Z → Mem) (priv : Z → X) (js : Code) (z0 : Z) (N : Nat) (vals : Nat → List Value)
    (hro : cx.ro = none) (hds : st.ds = []) (hg : ev st.env g = some (.func (.func gf) #[] lb)) (hf : Txt cx.P gf) (hps : ∀ k, (vals k).length = ps.size) (hpl : ∀ p ∈ ps.toList, Nat.blt p cx.nt = true)
    (h0 : M 0 z0 = st.mem)
    (hiter : ∀ D l r w, RoundsOk cx st.facts M Ms priv N vals js D l r → OkW cx (M 0 z0 ++ tl D l r) st.facts w → Calls cx.P gf (#[.func (.yield l) #[] #[]] ++ lb) w (IterR cx st.facts M Ms N js D l r))
    (hassign : ∀ D l r k z, k < N → J { cx with ro := some l } assign (Exit.thenS (fun s1 => ∃ ex : Mem, s1.ds = [] ∧ s1.facts = st.facts ∧ s1.mem = (M k z ++ tl D l r) ++ ex ∧
        J { cx with ro := some l } body (fun e s => s.facts = st.facts ∧ match e with
          | .normal => ∃ z', priv z' = priv z ∧ Pk (M (k + 1) z' ++ tl D l { r with state := .busy }) s.mem
          | .ret => js = .ret ∧ ∃ z', Pk (Ms z' ++ tl D l { r with state := .busy }) s.mem
          | .exit id => js = .exit id ∧ ∃ z', Pk (Ms z' ++ tl D l { r with state := .busy }) s.mem
          | _ => False) { s1 with mem := (M k z ++ tl D l { r with state := .busy }) ++ ex }) (fun _ _ => False))
      { env := zipE ps.toList (vals k) st.env, mem := M k z ++ tl D l r, facts := st.facts, ds := [] })
    (hdone : ∀ D z, K .normal { st with mem := M N z ++ [(D, .deferred (some []))], ds := [{ target := .collected D, args := #[] }] })
    (hstop : ∀ D z, J cx js K { st with mem := Ms z ++ [(D, .deferred (some []))], ds := [{ target := .collected D, args := #[] }] }) :
    J cx (.rangeFunc g ps assign body) K st := by
  intro a w ho
  refine wpIn_rangeFunc fun fn hfn => ?_
  have hro' : (fen cx.ro).round = none := by rw [hro]; rfl
  have hfenro : fen cx.ro = fen none := by rw [hro]
  rw [hro']
  obtain ⟨r, hr⟩ : ∃ r : Loop, r = { state := .ready, pending := none, fn, tmps := a.tmps, params := ps, assign, body, defers := w.heap.size } := ⟨_, rfl⟩
  have hrs : r.state = .ready := by rw [hr]
  have hrp : r.pending = none := by rw [hr]
  have hw1 : OkW cx (M 0 z0 ++ tl w.heap.size (w.heap.size + 1) r) st.facts ((w.alloc (.deferred (some []))).alloc (.loop r)) := by
    have h1 := (ho.w.alloc (.deferred (some []))).alloc (.loop r)
    rw [World.size_alloc] at h1
    rw [h0]
    simpa [tl] using h1
  refine ⟨w.heap.size + 1, [{ target := .collected w.heap.size, args := #[] }], (w.alloc (.deferred (some []))).alloc (.loop r), { target := .fn (.func gf) lb, args := #[.func (.yield (w.heap.size + 1)) #[] #[]] }, (w.alloc (.deferred (some []))).alloc (.loop r), gf,
    #[.func (.yield (w.heap.size + 1)) #[] #[]] ++ lb, (w.alloc (.deferred (some []))).alloc (.loop r), ?_, ?_, fun _ _ => trivial, ?_, fun h => (by cases h), ?_⟩
  · rw [hr]; exact run_enterLoop_outer _ _ _ _ _
  · simp only [resolve, ho.a.ev hg]
    simp [go_sem, Deferred.ofValue, Act.eval]
  · simp only [invoke]
    exact hf _ _
  · refine callsIn_fen ((hiter _ _ r _ ?_ hw1).mono ?_)
    · -- a round
      intro k z W hk hW
      have hl := hW.at (tl_at _ _ _ _)
      have hy := run_yield (P := cx.P) (args := (vals k).toArray) hl (by rw [hr]; simpa using hps k)
      refine ⟨_, _, _, _, hy, ?_⟩
      have ha0 : OkA { cx with ro := some (w.heap.size + 1) } (zipE ps.toList (vals k) st.env) [] { tmps := (r.params.zip (vals k).toArray).foldl (fun t (p, v) => t.setIfInBounds p v) r.tmps, defers := [] } := by
        have := OkA.zipL (cx := { cx with ro := some (w.heap.size + 1) }) (ds := []) (env := st.env) (ps := ps.toList) (vs := vals k) (tmps := a.tmps) ⟨ho.a.env, ho.a.size, rfl⟩ hpl
        rw [hr]
        have e : (ps.zip (vals k).toArray).foldl (fun t (p, v) => t.setIfInBounds p v) a.tmps = (ps.toList.zip (vals k)).foldl (fun t (p, v) => t.setIfInBounds p v) a.tmps := by
          rw [← Array.foldl_toList, Array.toList_zip]
        show OkA _ _ _ { tmps := (ps.zip (vals k).toArray).foldl (fun t (p, v) => t.setIfInBounds p v) a.tmps, defers := [] }
        rw [e]
        exact this
      refine roundIn_of_wpIn (F := fen none) (n := 0) hfn ?_
      have hJ := hassign w.heap.size (w.heap.size + 1) r k z hk _ W ⟨ha0, hW.cast rfl rfl⟩
      have e1 : (fen none).inRound (w.heap.size + 1) = fen (some (w.heap.size + 1)) := rfl
      rw [hr] at hJ ⊢
      rw [← hr] at hJ ⊢
      rw [e1]
      rw [show r.assign = assign by rw [hr], show r.body = body by rw [hr]]
      refine Go.wpIn_mono hJ ?_
      intro e a1 W1 ⟨s1, hs1, hK1⟩
      cases e with
      | normal =>
        obtain ⟨ex, hd1, hf1, hm1, hb1⟩ := hK1
        have hw1' := hs1.w
        rw [hm1, hf1] at hw1'
        have hlt1 : (M k z).length + 1 < (M k z ++ tl w.heap.size (w.heap.size + 1) r).length := by rw [List.length_append]; simp [tl]
        have hat1 : ((M k z ++ tl w.heap.size (w.heap.size + 1) r) ++ ex)[(M k z).length + 1]? = some (w.heap.size + 1, .loop r) := by
          rw [List.getElem?_append_left hlt1]
          exact tl_at _ _ _ _
        have hl1 := hw1'.at hat1
        refine ⟨_, run_beginRound hl1 hrs, ?_⟩
        have hw2 := hw1'.putObj (o' := .loop { r with state := .busy }) hat1
        rw [List.set_append_left _ _ hlt1, tl_set] at hw2
        refine Go.wpIn_mono (hb1 a1 _ ⟨hs1.a, by rw [hf1]; exact hw2⟩) ?_
        intro e2 a2 W2 ⟨s2, hs2, hf2, hK2⟩
        have fin : ∀ (jump : Option Code) (Mx : Mem), Pk (Mx ++ tl w.heap.size (w.heap.size + 1) { r with state := .busy }) s2.mem →
            ∃ w', (Instr.endRound (w.heap.size + 1) jump).run cx.P W2 = .ok (.bool jump.isNone) w' ∧ OkW cx (Mx ++ tl w.heap.size (w.heap.size + 1) { r with state := if jump.isNone then .ready else .done, pending := jump }) st.facts w' := by
          intro jump Mx hsub
          have h3 : OkW cx (Mx ++ tl w.heap.size (w.heap.size + 1) { r with state := .busy }) st.facts W2 := (hs2.w.pk hsub (fun f hf => by rw [hf2]; exact hf)).cast rfl rfl
          have hl3 := h3.at (tl_at _ _ _ _)
          refine ⟨_, run_endRound jump hl3, ?_⟩
          have := h3.putObj (o' := .loop { r with state := if jump.isNone then .ready else .done, pending := jump }) (tl_at _ _ _ _)
          rwa [tl_set] at this
        cases e2 with
        | normal =>
          obtain ⟨z', hz', hsub⟩ := hK2
          obtain ⟨w', h4, h5⟩ := fin none _ hsub
          refine ⟨_, w', h4, .inl ⟨rfl, z', hz', ?_⟩⟩
          have : ({ r with state := if (none : Option Code).isNone then .ready else .done, pending := none } : Loop) = r := by
            cases r; simp_all
          rwa [this] at h5
        | ret =>
          obtain ⟨rfl, z', hsub⟩ := hK2
          obtain ⟨w', h4, h5⟩ := fin (some .ret) _ hsub
          exact ⟨_, w', h4, .inr ⟨rfl, z', h5⟩⟩
        | exit id =>
          obtain ⟨rfl, z', hsub⟩ := hK2
          obtain ⟨w', h4, h5⟩ := fin (some (.exit id)) _ hsub
          exact ⟨_, w', h4, .inr ⟨rfl, z', h5⟩⟩
        | goto t => exact hK2.elim
        | panic c => exact hK2.elim
        | outgrown => exact hK2.elim
      | exit id => exact hK1.elim
      | goto t => exact hK1.elim
      | ret => exact hK1.elim
      | panic c => exact hK1.elim
      | outgrown => exact hK1.elim
    · -- behind the function
      rintro e W2 ⟨⟨v, rfl⟩, h2⟩
      have ha2 : OkA cx st.env [{ target := .collected w.heap.size, args := #[] }] { a with defers := [{ target := .collected w.heap.size, args := #[] }] ++ a.defers } :=
        ⟨ho.a.env, ho.a.size, by show _ ++ a.defers = _; rw [ho.a.ds, hds]; rfl⟩
      have drop : ∀ (Mx : Mem) (r' : Loop), List.Sublist (Mx ++ [(w.heap.size, .deferred (some []))]) (Mx ++ tl w.heap.size (w.heap.size + 1) r') := fun Mx r' =>
        List.Sublist.append (List.Sublist.refl _) (List.Sublist.cons_cons _ (List.nil_sublist _))
      rcases h2 with ⟨z, hz⟩ | ⟨z, hz⟩
      · have hl2 := hz.at (tl_at _ _ _ _)
        refine ⟨_, _, run_endLoop hl2 (by rw [hrs]; simp), ?_⟩
        have h3 := hz.putObj (o' := .loop { r with state := .exhausted }) (tl_at _ _ _ _)
        rw [tl_set] at h3
        rw [hrp] at h3 ⊢
        exact ⟨{ st with mem := M N z ++ [(w.heap.size, .deferred (some []))], ds := [{ target := .collected w.heap.size, args := #[] }] }, ⟨ha2, h3.sub (drop _ _) (fun f hf => hf)⟩, hdone _ z⟩
      · have hl2 := hz.at (tl_at _ _ _ _)
        refine ⟨_, _, run_endLoop hl2 (by simp), ?_⟩
        have h3 := hz.putObj (o' := .loop { { r with state := .done, pending := some js } with state := .exhausted }) (tl_at _ _ _ _)
        rw [tl_set] at h3
        exact hstop _ z _ _ ⟨ha2, h3.sub (drop _ _) (fun f hf => hf)⟩

end
end Go.Sx
