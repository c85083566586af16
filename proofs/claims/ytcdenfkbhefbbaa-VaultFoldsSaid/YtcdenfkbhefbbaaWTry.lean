/- What is tried: what is thrown is handed back as a number. -/
import Derived.Test.YtcdenfkbhefbbaaSx10
import Derived.Test.YtcdenfkbhefbbaaWPut3
set_option linter.unusedVariables false
set_option linter.unusedSimpArgs false
set_option maxRecDepth 100000
namespace Go.Proofs.Ytcdenfkbhefbbaa
open Go.Sx
theorem get_one {j k : Nat} {u v : Value} {e : Env} (h : Sx.get [(j, u)] k = some v) (h2 : Sx.get e j = some u := by rfl) : Sx.get e k = some v := by
  unfold Sx.get at h
  split at h
  · rename_i e
    have : j = k := Nat.eq_of_beq_eq_true e
    subst this
    cases h
    exact h2
  · cases h
def oldF (w0 : World) : Fact := { fp := fun k => k < w0.heap.size, p := fun _ => True, dep := fun _ _ _ _ => trivial }
theorem tx54z : Txt Try.prog 54 := txt_of Try.func54 rfl (by kernel_rfl)
theorem caught_yes (b : Nat) (x k : Int) (older : List PanicEntry) (w : World) (hb : w.heap[b]? = some (row 48 [vi x])) :
    CallsDIn (fen none) 0 Try.prog 54 #[.pointer (some ⟨b, 0, none⟩)] (.panicking (stp 110 k :: older)) w fun e u' w' => e = .returned (.tuple #[]) ∧ u' = .panicking ({ stp 110 k with recovered := true } :: older) ∧ Fr [b] w w' ∧ w'.heap[b]? = some (row 48 [vi k]) := by
  refine callsDIn_of_wpSIn Try.func54 rfl trivial fun c₀ cs hu => ?_
  refine wpSIn_seq ?_
  refine rec_region (fun _ => trivial) rfl rfl rfl rfl rfl rfl (by simp [Try.ntmps54]) (.iface 110 (.agg [vi k].toArray)) (.inl (recoverD_yes hu)) ?_
  refine wpSIn_of_J (cx := { P := Try.prog, w0 := w, nt := Try.f54.ntmps, mods := [b] }) (st := { env := [(2, .iface 110 (.agg [vi k].toArray)), (3, .iface 110 (.agg [vi k].toArray)), (0, .pointer (some ⟨b, 0, none⟩))], mem := [(b, row 48 [vi x])] }) rfl ?_ ⟨OkA.put (OkA.put (env := [(0, .pointer (some ⟨b, 0, none⟩))]) (ds := []) ⟨fun k v hk => ?_, by simp [Try.ntmps54], rfl⟩ rfl _) rfl _, okM1 hb (by simp)⟩
  · refine J_seq ?_
    refine J_region ?_
    refine L_v rfl rfl rfl (V_move rfl rfl) ?_
    refine L_v rfl rfl rfl (V_neIface rfl rfl rfl Try.underlying20) ?_
    refine L_nil ?_
    refine J_true rfl ?_
    refine J_region ?_
    refine L_v rfl rfl rfl (V_move rfl rfl) ?_
    refine L_v rfl rfl rfl (V_move rfl rfl) ?_
    refine L_v rfl rfl rfl (V_typeAssert rfl rfl Try.underlying110) ?_
    refine L_v rfl rfl rfl (V_field1 rfl rfl Try.underlying110 rfl Try.underlying48 rfl rfl) ?_
    refine L_v rfl rfl rfl (V_nilCheck rfl rfl) ?_
    refine L_store1 0 rfl rfl rfl rfl rfl rfl rfl (by kernel_rfl : (Try.prog.info? 48).map (·.size) = some 1) (by simp) rfl ?_
    refine L_nil ?_
    exact KretS_normal rfl rfl fun w' h => ⟨rfl, rfl, h.fr, h.at (i := 0) rfl⟩
  · unfold Sx.get at hk
    split at hk
    · rename_i e
      have : 0 = k := Nat.eq_of_beq_eq_true e
      subst this
      cases hk
      rfl
    · cases hk
theorem caught_no (b : Nat) (w : World) :
    CallsDIn (fen none) 0 Try.prog 54 #[.pointer (some ⟨b, 0, none⟩)] .returning w fun e u' w' => e = .returned (.tuple #[]) ∧ u' = .returning ∧ Fr [] w w' := by
  refine callsDIn_of_wpSIn Try.func54 rfl trivial fun c₀ cs hu => ?_
  refine wpSIn_seq ?_
  refine rec_region (fun _ => trivial) rfl rfl rfl rfl rfl rfl (by simp [Try.ntmps54]) .nilIface (.inr ⟨recoverD_no hu, rfl, rfl⟩) ?_
  have e0 : c₀ = { c₀ with mode := .returning } := by cases c₀; simp_all
  refine wpSIn_of_J (cx := { P := Try.prog, w0 := w, nt := Try.f54.ntmps, mods := [] }) (st := { env := [(2, .nilIface), (3, .nilIface), (0, .pointer (some ⟨b, 0, none⟩))] }) rfl ?_ ⟨OkA.put (OkA.put (env := [(0, .pointer (some ⟨b, 0, none⟩))]) (ds := []) ⟨fun k v hk => ?_, by simp [Try.ntmps54], rfl⟩ rfl _) rfl _, okW0 _ _ _ _⟩
  · refine J_seq ?_
    refine J_region ?_
    refine L_v rfl rfl rfl (V_move rfl rfl) ?_
    refine L_v rfl rfl rfl (V_neNil rfl rfl Try.underlying20) ?_
    refine L_nil ?_
    refine J_false rfl ?_
    refine J_skip ?_
    conv => arg 5; rw [e0]
    exact KretS_normal rfl rfl fun w' h => ⟨rfl, rfl, h.fr⟩
  · unfold Sx.get at hk
    split at hk
    · rename_i e
      have : 0 = k := Nat.eq_of_beq_eq_true e
      subst this
      cases hk
      rfl
    · cases hk
/-- A call that is tried: what is thrown is handed back as a number. -/
theorem try_w (F : FuncId) (first cap : Array Value) (w0 : World) (mods : List Nat) (fs : List Fact) (G1 : List Fact → Prop) (G2 : Int → List Fact → Prop) (htx : Txt Try.prog F)
    (hm : ∀ b ∈ mods, b < w0.heap.size) (hfs : ∀ f ∈ fs, f.p w0 ∧ ∀ k, f.fp k → k < w0.heap.size)
    (hc : ∀ w, (∀ f ∈ fs, f.p w) → w0.heap.size ≤ w.heap.size → Calls Try.prog F (first ++ #[] ++ cap) w fun e w' => Fr mods w w' ∧ ((∃ v fs', e = .returned v ∧ G1 fs' ∧ ∀ f ∈ fs', f.p w' ∧ ∀ k, f.fp k → k < w'.heap.size ∧ (k < w0.heap.size ∨ w.heap.size ≤ k)) ∨ ∃ k fs', e = .panicked [stp 110 k] ∧ G2 k fs' ∧ ∀ f ∈ fs', f.p w' ∧ ∀ k, f.fp k → k < w'.heap.size ∧ (k < w0.heap.size ∨ w.heap.size ≤ k))) :
    Calls Try.prog 40 #[.func (.func F) first cap] w0 fun e w' => Fr mods w0 w' ∧ ((e = .returned (vi 0) ∧ ∃ fs', G1 fs' ∧ ∀ f ∈ fs', f.p w' ∧ ∀ k, f.fp k → k < w'.heap.size) ∨ ∃ k fs', e = .returned (vi k) ∧ G2 k fs' ∧ ∀ f ∈ fs', f.p w' ∧ ∀ k, f.fp k → k < w'.heap.size) := by
  refine calls_of_d (args := [.func (.func F) first cap]) mods [] (oldF w0 :: fs) Try.func40 rfl rfl ⟨by simp, by simp, by simp, fun f hf => ?_, Fr.refl _ _⟩ ?_
  · rcases List.mem_cons.1 hf with rfl | hf
    · exact ⟨trivial, fun k hk => ⟨hk, by simp⟩⟩
    · exact ⟨(hfs f hf).1, fun k hk => ⟨(hfs f hf).2 k hk, by simp⟩⟩
  refine J_seq ?_
  refine J_region ?_
  refine L_alloc rfl rfl rfl rfl (by kernel_rfl : (Try.prog.info? 48).bind (·.zero) = some (.int .i64 0)) (fun b0 => ?_)
  refine L_nil ?_
  change J _ _ _ _
  refine J_seq ?_
  refine J_region ?_
  refine L_defer rfl rfl rfl rfl rfl ?_ rfl
  refine L_nil ?_
  change J _ _ _ _
  refine J_seq ?_
  refine J_regionP ?_
  refine LP_one ?_
  refine L_v rfl rfl rfl (V_move rfl rfl) ?_
  refine L_nil ?_
  refine LP_call (f := F) (first := first) (cap := cap) (vs := []) rfl rfl rfl rfl htx (fun w hw => (hc w (fun f hf => (hw.facts f (List.mem_cons_of_mem _ hf)).1) hw.fr.size).mono ?_)
  rintro e w' ⟨hfr, hR⟩
  have hb0 : w0.heap.size ≤ b0 := Nat.le_of_not_lt fun h => ((hw.facts _ (List.mem_cons_self ..)).2 b0 h).2 (List.mem_singleton.2 rfl)
  have hbm : b0 ∉ mods := fun h => by have := hm b0 h; omega
  have hlt : b0 < w.heap.size := hw.lt (List.mem_singleton.2 rfl)
  have hat : w'.heap[b0]? = some (row 48 [vi 0]) := (hfr.block b0 hlt hbm).trans (hw.at (i := 0) rfl)
  have hfr0 : Fr mods w0 w' := hw.fr.trans hfr
  rcases hR with ⟨v, fs', rfl, hG, hf'⟩ | ⟨k, fs', rfl, hG, hf'⟩
  · refine .inl ⟨v, [(b0, row 48 [vi 0])], fs', rfl, ⟨fun b o hb => ?_, by simp, fun b hb => ?_, fun f hf => ⟨(hf' f hf).1, fun k hk => ⟨((hf' f hf).2 k hk).1, ?_⟩⟩, hfr0⟩, rfl, ?_⟩
    · simp only [List.mem_singleton, Prod.mk.injEq] at hb
      obtain ⟨rfl, rfl⟩ := hb
      exact hat
    · obtain rfl := List.mem_singleton.1 hb
      exact .inl hb0
    · have h1 := ((hf' f hf).2 k hk).2
      intro hm'
      obtain rfl := List.mem_singleton.1 hm'
      omega
    · refine LP_nil ?_
      change J _ _ _ _
      refine J_seq ?_
      refine J_region ?_
      refine L_store1 0 rfl rfl rfl rfl rfl rfl rfl (by kernel_rfl : (Try.prog.info? 48).map (·.size) = some 1) (by simp) rfl ?_
      refine L_nil ?_
      change J _ _ _ _
      refine J_ret ?_
      intro a w2 ho
      refine leavesIn_cons (f := 54) (args := #[.pointer (some ⟨b0, 0, none⟩)]) (by simp) (fun h => by cases h) (by simp only [invoke, Array.append_empty]; exact tx54z _ _) (fun _ _ => trivial) ?_
      refine (caught_no b0 w2).mono ?_
      rintro e u' w3 ⟨rfl, rfl, hfr3⟩
      have h3 := ho.w.fr0 hfr3
      refine ⟨vi 0, ?_, h3.fr, .inl ⟨rfl, fs', hG, fun f hf => ⟨(h3.facts f hf).1, fun k hk => ((h3.facts f hf).2 k hk).1⟩⟩⟩
      have := RV_c1 (cx := { P := Try.prog, w0 := w0, nt := Try.f40.ntmps, mods := mods }) (T := 48) (fz := (0, 0)) (l := [vi 0]) (st := { env := [(2, .pointer (some ⟨b0, 0, none⟩))], mem := [(b0, row 48 [vi 0])], facts := fs' }) (p := 2) (t := 48) 0 rfl rfl Try.underlying48 rfl rfl { a with defers := [] } w3 ⟨⟨fun k v hk => ho.a.env k v (get_one hk), ho.a.size, rfl⟩, h3⟩
      rw [results_rd]
      show ((do let vs ← #[ResultVar.cell 2 48].mapM (Sx.rd a.tmps); pure _).run Try.prog w3) = _
      simp [Sem.run_bind, this]
  · refine .inr ⟨_, [(b0, row 48 [vi 0])], fs', rfl, ⟨fun b o hb => ?_, by simp, fun b hb => ?_, fun f hf => ⟨(hf' f hf).1, fun k hk => ⟨((hf' f hf).2 k hk).1, ?_⟩⟩, hfr0⟩, ?_⟩
    · simp only [List.mem_singleton, Prod.mk.injEq] at hb
      obtain ⟨rfl, rfl⟩ := hb
      exact hat
    · obtain rfl := List.mem_singleton.1 hb
      exact .inl hb0
    · have h1 := ((hf' f hf).2 k hk).2
      intro hm'
      obtain rfl := List.mem_singleton.1 hm'
      omega
    · change KretD _ _ _ (Exit.panic _) _
      intro a w2 ho
      refine leavesIn_cons (f := 54) (args := #[.pointer (some ⟨b0, 0, none⟩)]) (by simp) (fun h => by cases h) (by simp only [invoke, Array.append_empty]; exact tx54z _ _) (fun _ _ => trivial) ?_
      refine (caught_yes b0 0 k [] w2 (ho.w.at (i := 0) rfl)).mono ?_
      rintro e u' w3 ⟨rfl, rfl, hfr3, hb3⟩
      have h3 := ho.w.set (i := 0) rfl hfr3 hb3
      refine ⟨vi k, ?_, h3.fr, .inr ⟨k, fs', rfl, hG, fun f hf => ⟨(h3.facts f hf).1, fun k hk => ((h3.facts f hf).2 k hk).1⟩⟩⟩
      have := RV_c1 (cx := { P := Try.prog, w0 := w0, nt := Try.f40.ntmps, mods := mods }) (T := 48) (fz := (0, 0)) (l := [vi k]) (st := { env := [(2, .pointer (some ⟨b0, 0, none⟩))], mem := [(b0, row 48 [vi k])], facts := fs' }) (p := 2) (t := 48) 0 rfl rfl Try.underlying48 rfl rfl { a with defers := [] } w3 ⟨⟨fun k v hk => ho.a.env k v (get_one hk), ho.a.size, rfl⟩, h3⟩
      rw [results_rd]
      show ((do let vs ← #[ResultVar.cell 2 48].mapM (Sx.rd a.tmps); pure _).run Try.prog w3) = _
      simp [Sem.run_bind, this]



end Go.Proofs.Ytcdenfkbhefbbaa
