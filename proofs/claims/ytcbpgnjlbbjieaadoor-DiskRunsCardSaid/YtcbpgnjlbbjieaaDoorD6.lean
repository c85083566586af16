/- A call of a script. -/
import Derived.Test.YtcbpgnjlbbjieaaDoorD5
import Derived.Test.YtcbpgnjlbbjieaaDoorKeep
set_option linter.unusedVariables false
set_option linter.unusedSimpArgs false
set_option maxRecDepth 100000
namespace Go.Proofs.YtcbpgnjlbbjieaaDoor
open Go.Sx
structure OpV where
  kind : Int
  file : ByteArray
  to : ByteArray
  ba : Option Addr
  bc : Nat
  bytes : List Int
  n : Int
  ta : Option Addr
  tc : Nat
  tails : List Int
  noise : Int
abbrev opC (o : OpV) : List Value := [.int .i64 o.kind, .string o.file, .string o.to, .slice o.ba o.bytes.length o.bc, .int .i64 o.n, .slice o.ta o.tails.length o.tc, .int .u8 o.noise]
abbrev opB (o : OpV) : Fact := factB (.slice o.ba o.bytes.length o.bc) o.bytes
abbrev opT (o : OpV) : Fact := factC 1 (.slice o.ta o.tails.length o.tc) o.tails.length (intV o.tails)
def opF (o : OpV) : Fact := andF (opB o) (opT o)
abbrev opR (l : List OpV) : List Value := (l.map opC).flatten
def opsF (a : Option Addr) (c : Nat) (l : List OpV) : Fact := andF (factC 7 (.slice a l.length c) l.length (opR l)) (allF (l.map opF))
def op0 : OpV := ⟨0, e0, e0, none, 0, [], 0, none, 0, [], 0⟩
def opE (D : Dk) (o : OpV) : Int := if o.kind = 1 then createE D o.file else if o.kind = 2 then appendE D o.file o.bytes else if o.kind = 3 then nameE D o.file else if o.kind = 4 then renameE D o.file o.to else if o.kind = 5 then nameE D o.file else if o.kind = 6 then namesE D else if o.kind = 7 then stopE D o.n else 0
def opD (D : Dk) (o : OpV) : Dk := if o.kind = 1 then createD D o.file else if o.kind = 2 then appendD D o.file o.bytes else if o.kind = 3 then syncD D o.file else if o.kind = 4 then renameD D o.file o.to else if o.kind = 5 then removeD D o.file else if o.kind = 6 then namesD D else if o.kind = 7 then stopD D o.n else if o.kind = 8 then crashD D o.n o.tails o.noise else D
theorem WfD.op {D : Dk} {k : Nat} (h : WfD D k) (o : OpV) : WfD (opD D o) (k + 1) := by
  have up : ∀ {D' : Dk}, WfD D' k → WfD D' (k + 1) := fun h => h.mono (Nat.le_succ k)
  unfold opD
  split
  · exact h.create _
  · split
    · exact up (h.append _ _)
    · split
      · exact up (h.sync _)
      · split
        · exact h.rename _ _
        · split
          · exact h.remove _
          · split
            · exact up h.names
            · split
              · exact up (h.stop _)
              · split
                · exact up (h.crash _ _ _)
                · exact up h
section
variable {D : Dk} {o : OpV}
theorem op_1 (h : o.kind = 1) : opE D o = createE D o.file ∧ opD D o = createD D o.file := ⟨if_pos h, if_pos h⟩
theorem op_2 (h : o.kind = 2) : opE D o = appendE D o.file o.bytes ∧ opD D o = appendD D o.file o.bytes := by unfold opE opD; rw [if_neg (by omega), if_pos h, if_neg (by omega), if_pos h]; exact ⟨rfl, rfl⟩
theorem op_3 (h : o.kind = 3) : opE D o = nameE D o.file ∧ opD D o = syncD D o.file := by unfold opE opD; simp only [h]; exact ⟨rfl, rfl⟩
theorem op_4 (h : o.kind = 4) : opE D o = renameE D o.file o.to ∧ opD D o = renameD D o.file o.to := by unfold opE opD; simp only [h]; exact ⟨rfl, rfl⟩
theorem op_5 (h : o.kind = 5) : opE D o = nameE D o.file ∧ opD D o = removeD D o.file := by unfold opE opD; simp only [h]; exact ⟨rfl, rfl⟩
theorem op_6 (h : o.kind = 6) : opE D o = namesE D ∧ opD D o = namesD D := by unfold opE opD; simp only [h]; exact ⟨rfl, rfl⟩
theorem op_7 (h : o.kind = 7) : opE D o = stopE D o.n ∧ opD D o = stopD D o.n := by unfold opE opD; simp only [h]; exact ⟨rfl, rfl⟩
theorem op_8 (h : o.kind = 8) : opE D o = 0 ∧ opD D o = crashD D o.n o.tails o.noise := by unfold opE opD; simp only [h]; exact ⟨rfl, rfl⟩
theorem op_9 (h1 : o.kind ≠ 1) (h2 : o.kind ≠ 2) (h3 : o.kind ≠ 3) (h4 : o.kind ≠ 4) (h5 : o.kind ≠ 5) (h6 : o.kind ≠ 6) (h7 : o.kind ≠ 7) (h8 : o.kind ≠ 8) : opE D o = 0 ∧ opD D o = D := by
  unfold opE opD
  rw [if_neg h1, if_neg h2, if_neg h3, if_neg h4, if_neg h5, if_neg h6, if_neg h7, if_neg h1, if_neg h2, if_neg h3, if_neg h4, if_neg h5, if_neg h6, if_neg h7, if_neg h8]
  exact ⟨rfl, rfl⟩
end
theorem op_at {l : List OpV} {i : Nat} (h : i < l.length) (k : Nat) (u : Value) (hu : (opC (l.getD i op0))[k]? = some u) : (opR l)[((i : Nat) : Int).toNat * (6 + 1) + k]? = some u := by
  have hk : k < 7 := (List.getElem?_eq_some_iff.1 hu).1
  rw [← hu]
  exact flat_get' (f := opC) (fun _ => rfl) op0 k h hk
theorem own_hBr {cx : Cx} {m m' : Mem} {fs : List Fact} {w : World} {g : Nat} {l : List Int} {r : List Value} {T : TypeId} {fz : Nat × Nat} (h : OkW cx ((g, .cells (dg l ++ r).toArray T fz) :: m) fs w) (hm : List.Sublist m' m) (c : Nat) : ∀ f ∈ [factB (.slice (some ⟨g, 0, none⟩) l.length c) l], f.p w ∧ ∀ k, f.fp k → k < w.heap.size ∧ k ∉ m'.map (·.1) := by
  intro f hf
  obtain rfl := List.mem_singleton.1 hf
  have h1 : SlB w (.slice (some ⟨g, 0, none⟩) l.length c) l := SlB.in h (List.mem_cons_self ..) rfl c
  refine ⟨h1, fun k hk => ⟨factB_lt h1 k hk, ?_⟩⟩
  obtain ⟨_, off, n, c', e⟩ := hk
  simp only [Value.slice.injEq, Option.some.injEq, Addr.mk.injEq] at e
  obtain rfl := e.1.1
  have := h.dis
  rw [List.map_cons, List.nodup_cons] at this
  exact fun hk => this.1 ((hm.map _).subset hk)
theorem op_hT {cx : Cx} {m m' : Mem} {fs : List Fact} {w : World} (h : OkW cx m fs w) {o : OpV} (hf0 : opF o ∈ fs) (hm : List.Sublist m' m) : ∀ f ∈ [opT o], f.p w ∧ ∀ k, f.fp k → k < w.heap.size ∧ k ∉ m'.map (·.1) := by
  intro f hf
  obtain rfl := List.mem_singleton.1 hf
  have h9 := h.facts _ hf0
  exact ⟨h9.1.2, fun k hk => ⟨(h9.2 k (.inr hk)).1, fun hkm => (h9.2 k (.inr hk)).2 ((hm.map _).subset hkm)⟩⟩
theorem op_hB {cx : Cx} {m m' : Mem} {fs : List Fact} {w : World} (h : OkW cx m fs w) {o : OpV} (hf0 : opF o ∈ fs) (hm : List.Sublist m' m) : ∀ f ∈ [opB o], f.p w ∧ ∀ k, f.fp k → k < w.heap.size ∧ k ∉ m'.map (·.1) := by
  intro f hf
  obtain rfl := List.mem_singleton.1 hf
  have h9 := h.facts _ hf0
  exact ⟨h9.1.1, fun k hk => ⟨(h9.2 k (.inl hk)).1, fun hkm => (h9.2 k (.inl hk)).2 ((hm.map _).subset hkm)⟩⟩
theorem keyD {l : List Nm} {i : Nat} (h : i < l.length) : (l.map Prod.fst).getD i e0 = (l.getD i (e0, 0)).1 := getD_map' Prod.fst (e0, 0) e0 h
theorem slC_at {sz n c : Nat} {w : World} {a : Option Addr} {cs : List Value} (h : SlC sz w (.slice a n c) n cs) (hc : cs ≠ []) : ∃ b off, a = some ⟨b, off, none⟩ := by
  obtain ⟨x, hx⟩ : ∃ x, cs[0]? = some x := by
    cases cs with
    | nil => exact absurd rfl hc
    | cons x cs => exact ⟨x, rfl⟩
  obtain ⟨b, off, e, _⟩ := h.cell hx
  exact ⟨b, off, e⟩
theorem sz3df : (Tryd.prog.info? 3).map (·.size) = some 1 := by kernel_rfl
theorem sz5df : (Tryd.prog.info? 5).map (·.size) = some 1 := by kernel_rfl
theorem sz9df : (Tryd.prog.info? 9).map (·.size) = some 1 := by kernel_rfl
theorem sz22df : (Tryd.prog.info? 22).map (·.size) = some 1 := by kernel_rfl
theorem sz23df : (Tryd.prog.info? 23).map (·.size) = some 1 := by kernel_rfl
theorem sz47df : (Tryd.prog.info? 47).map (·.size) = some 7 := by kernel_rfl
theorem tx10df : Txt Tryd.prog 10 := txt_of Tryd.func10 rfl (by kernel_rfl)
theorem tx11df : Txt Tryd.prog 11 := txt_of Tryd.func11 rfl (by kernel_rfl)
theorem tx12df : Txt Tryd.prog 12 := txt_of Tryd.func12 rfl (by kernel_rfl)
theorem tx13df : Txt Tryd.prog 13 := txt_of Tryd.func13 rfl (by kernel_rfl)
theorem tx14df : Txt Tryd.prog 14 := txt_of Tryd.func14 rfl (by kernel_rfl)
theorem tx15df : Txt Tryd.prog 15 := txt_of Tryd.func15 rfl (by kernel_rfl)
theorem tx19df : Txt Tryd.prog 19 := txt_of Tryd.func19 rfl (by kernel_rfl)
theorem tx27df : Txt Tryd.prog 27 := txt_of Tryd.func27 rfl (by kernel_rfl)
theorem tx29df : Txt Tryd.prog 29 := txt_of Tryd.func29 rfl (by kernel_rfl)
theorem tx32df : Txt Tryd.prog 32 := txt_of Tryd.func32 rfl (by kernel_rfl)
theorem tx39df : Txt Tryd.prog 39 := txt_of Tryd.func39 rfl (by kernel_rfl)
theorem tx40df : Txt Tryd.prog 40 := txt_of Tryd.func40 rfl (by kernel_rfl)

theorem create_0 (f : ByteArray) (w : World) :
    Calls Tryd.prog 10 #[.pointer none, .string f] w fun e w' => e = .returned (.int .i64 3) ∧ Fr [] w w' := by
  refine calls_of (args := [.pointer none, .string f]) ([]) ([]) ([]) Tryd.func10 rfl rfl (okW0 _ _ _ _) ?_
  refine J_seq ?_
  refine J_region ?_
  refine L_v rfl rfl rfl (V_assign rfl rfl) ?_
  refine L_nil ?_
  change J _ _ _ _
  refine J_seq ?_
  refine J_seq ?_
  refine J_region ?_
  refine L_v rfl rfl rfl (V_move rfl rfl) ?_
  refine L_callV rfl rfl rfl rfl rfl rfl tx29df (fun w1 hw => ready_0 w1) ?_
  refine L_v rfl rfl rfl (V_assign rfl rfl) ?_
  refine L_nil ?_
  change J _ _ _ _
  refine J_seq ?_
  refine J_region ?_
  refine L_v rfl rfl rfl (V_move rfl rfl) ?_
  refine L_v rfl rfl rfl (V_neq rfl rfl rfl rfl) ?_
  refine L_nil ?_
  change J _ _ _ _
  refine J_true rfl ?_
  refine J_seq ?_
  refine J_region ?_
  refine L_v rfl rfl rfl (V_move rfl rfl) ?_
  refine L_v rfl rfl rfl (V_assign rfl rfl) ?_
  refine L_nil ?_
  change J _ _ _ _
  refine J_ret ?_
  change Kret _ _ _ Exit.ret _
  refine ret1 rfl rfl (RV_t rfl) ?_
  exact fun w' h => ⟨rfl, h.fr⟩

theorem append_0 (f : ByteArray) (v : Value) (w : World) :
    Calls Tryd.prog 11 #[.pointer none, .string f, v] w fun e w' => e = .returned (.int .i64 3) ∧ Fr [] w w' := by
  refine calls_of (args := [.pointer none, .string f, v]) ([]) ([]) ([]) Tryd.func11 rfl rfl (okW0 _ _ _ _) ?_
  refine J_seq ?_
  refine J_region ?_
  refine L_v rfl rfl rfl (V_assign rfl rfl) ?_
  refine L_nil ?_
  change J _ _ _ _
  refine J_seq ?_
  refine J_region ?_
  refine L_v rfl rfl rfl (V_move rfl rfl) ?_
  refine L_v rfl rfl rfl (V_move rfl rfl) ?_
  refine L_callV rfl rfl rfl rfl rfl rfl tx32df (fun w1 hw => of_0 f w1) ?_
  refine L_v rfl rfl rfl (V_move rfl rfl) ?_
  refine L_v rfl rfl rfl (V_extract rfl rfl rfl) ?_
  refine L_v rfl rfl rfl (V_extract rfl rfl rfl) ?_
  refine L_v rfl rfl rfl (V_assign rfl rfl) ?_
  refine L_v rfl rfl rfl (V_assign rfl rfl) ?_
  refine L_nil ?_
  change J _ _ _ _
  refine J_seq ?_
  refine J_seq ?_
  refine J_region ?_
  refine L_v rfl rfl rfl (V_move rfl rfl) ?_
  refine L_v rfl rfl rfl (V_neq rfl rfl rfl rfl) ?_
  refine L_nil ?_
  change J _ _ _ _
  refine J_true rfl ?_
  refine J_seq ?_
  refine J_region ?_
  refine L_v rfl rfl rfl (V_move rfl rfl) ?_
  refine L_v rfl rfl rfl (V_assign rfl rfl) ?_
  refine L_nil ?_
  change J _ _ _ _
  refine J_ret ?_
  change Kret _ _ _ Exit.ret _
  refine ret1 rfl rfl (RV_t rfl) ?_
  exact fun w' h => ⟨rfl, h.fr⟩

theorem sync_0 (f : ByteArray) (w : World) :
    Calls Tryd.prog 12 #[.pointer none, .string f] w fun e w' => e = .returned (.int .i64 3) ∧ Fr [] w w' := by
  refine calls_of (args := [.pointer none, .string f]) ([]) ([]) ([]) Tryd.func12 rfl rfl (okW0 _ _ _ _) ?_
  refine J_seq ?_
  refine J_region ?_
  refine L_v rfl rfl rfl (V_assign rfl rfl) ?_
  refine L_nil ?_
  change J _ _ _ _
  refine J_seq ?_
  refine J_region ?_
  refine L_v rfl rfl rfl (V_move rfl rfl) ?_
  refine L_v rfl rfl rfl (V_move rfl rfl) ?_
  refine L_callV rfl rfl rfl rfl rfl rfl tx32df (fun w1 hw => of_0 f w1) ?_
  refine L_v rfl rfl rfl (V_move rfl rfl) ?_
  refine L_v rfl rfl rfl (V_extract rfl rfl rfl) ?_
  refine L_v rfl rfl rfl (V_extract rfl rfl rfl) ?_
  refine L_v rfl rfl rfl (V_assign rfl rfl) ?_
  refine L_v rfl rfl rfl (V_assign rfl rfl) ?_
  refine L_nil ?_
  change J _ _ _ _
  refine J_seq ?_
  refine J_seq ?_
  refine J_region ?_
  refine L_v rfl rfl rfl (V_move rfl rfl) ?_
  refine L_v rfl rfl rfl (V_neq rfl rfl rfl rfl) ?_
  refine L_nil ?_
  change J _ _ _ _
  refine J_true rfl ?_
  refine J_seq ?_
  refine J_region ?_
  refine L_v rfl rfl rfl (V_move rfl rfl) ?_
  refine L_v rfl rfl rfl (V_assign rfl rfl) ?_
  refine L_nil ?_
  change J _ _ _ _
  refine J_ret ?_
  change Kret _ _ _ Exit.ret _
  refine ret1 rfl rfl (RV_t rfl) ?_
  exact fun w' h => ⟨rfl, h.fr⟩

theorem rename_0 (f t : ByteArray) (w : World) :
    Calls Tryd.prog 14 #[.pointer none, .string f, .string t] w fun e w' => e = .returned (.int .i64 3) ∧ Fr [] w w' := by
  refine calls_of (args := [.pointer none, .string f, .string t]) ([]) ([]) ([]) Tryd.func14 rfl rfl (okW0 _ _ _ _) ?_
  refine J_seq ?_
  refine J_region ?_
  refine L_v rfl rfl rfl (V_assign rfl rfl) ?_
  refine L_nil ?_
  change J _ _ _ _
  refine J_seq ?_
  refine J_region ?_
  refine L_v rfl rfl rfl (V_move rfl rfl) ?_
  refine L_v rfl rfl rfl (V_move rfl rfl) ?_
  refine L_callV rfl rfl rfl rfl rfl rfl tx32df (fun w1 hw => of_0 f w1) ?_
  refine L_v rfl rfl rfl (V_move rfl rfl) ?_
  refine L_v rfl rfl rfl (V_extract rfl rfl rfl) ?_
  refine L_v rfl rfl rfl (V_extract rfl rfl rfl) ?_
  refine L_v rfl rfl rfl (V_assign rfl rfl) ?_
  refine L_v rfl rfl rfl (V_assign rfl rfl) ?_
  refine L_nil ?_
  change J _ _ _ _
  refine J_seq ?_
  refine J_block ?_
  refine J_seq ?_
  refine J_region ?_
  refine L_v rfl rfl rfl (V_move rfl rfl) ?_
  refine L_v rfl rfl rfl (V_neq rfl rfl rfl rfl) ?_
  refine L_v rfl rfl rfl (V_assign rfl rfl) ?_
  refine L_nil ?_
  change J _ _ _ _
  refine J_true rfl ?_
  refine J_seq ?_
  refine J_region ?_
  refine L_v rfl rfl rfl (V_move rfl rfl) ?_
  refine L_v rfl rfl rfl (V_assign rfl rfl) ?_
  refine L_nil ?_
  change J _ _ _ _
  refine J_ret ?_
  change Kret _ _ _ Exit.ret _
  refine ret1 rfl rfl (RV_t rfl) ?_
  exact fun w' h => ⟨rfl, h.fr⟩

theorem remove_0 (f : ByteArray) (w : World) :
    Calls Tryd.prog 19 #[.pointer none, .string f] w fun e w' => e = .returned (.int .i64 3) ∧ Fr [] w w' := by
  refine calls_of (args := [.pointer none, .string f]) ([]) ([]) ([]) Tryd.func19 rfl rfl (okW0 _ _ _ _) ?_
  refine J_seq ?_
  refine J_region ?_
  refine L_v rfl rfl rfl (V_assign rfl rfl) ?_
  refine L_nil ?_
  change J _ _ _ _
  refine J_seq ?_
  refine J_seq ?_
  refine J_region ?_
  refine L_v rfl rfl rfl (V_move rfl rfl) ?_
  refine L_v rfl rfl rfl (V_move rfl rfl) ?_
  refine L_callV rfl rfl rfl rfl rfl rfl tx32df (fun w1 hw => of_0 f w1) ?_
  refine L_v rfl rfl rfl (V_move rfl rfl) ?_
  refine L_v rfl rfl rfl (V_extract rfl rfl rfl) ?_
  refine L_v rfl rfl rfl (V_extract rfl rfl rfl) ?_
  refine L_v rfl rfl rfl (V_assign rfl rfl) ?_
  refine L_v rfl rfl rfl (V_assign rfl rfl) ?_
  refine L_nil ?_
  change J _ _ _ _
  refine J_seq ?_
  refine J_region ?_
  refine L_v rfl rfl rfl (V_move rfl rfl) ?_
  refine L_v rfl rfl rfl (V_neq rfl rfl rfl rfl) ?_
  refine L_nil ?_
  change J _ _ _ _
  refine J_true rfl ?_
  refine J_seq ?_
  refine J_region ?_
  refine L_v rfl rfl rfl (V_move rfl rfl) ?_
  refine L_v rfl rfl rfl (V_assign rfl rfl) ?_
  refine L_nil ?_
  change J _ _ _ _
  refine J_ret ?_
  change Kret _ _ _ Exit.ret _
  refine ret1 rfl rfl (RV_t rfl) ?_
  exact fun w' h => ⟨rfl, h.fr⟩

theorem syncNames_0 (w : World) :
    Calls Tryd.prog 13 #[.pointer none] w fun e w' => e = .returned (.int .i64 3) ∧ Fr [] w w' := by
  refine calls_of (args := [.pointer none]) ([]) ([]) ([]) Tryd.func13 rfl rfl (okW0 _ _ _ _) ?_
  refine J_seq ?_
  refine J_region ?_
  refine L_v rfl rfl rfl (V_assign rfl rfl) ?_
  refine L_nil ?_
  change J _ _ _ _
  refine J_seq ?_
  refine J_seq ?_
  refine J_region ?_
  refine L_v rfl rfl rfl (V_move rfl rfl) ?_
  refine L_callV rfl rfl rfl rfl rfl rfl tx29df (fun w1 hw => ready_0 w1) ?_
  refine L_v rfl rfl rfl (V_assign rfl rfl) ?_
  refine L_nil ?_
  change J _ _ _ _
  refine J_seq ?_
  refine J_region ?_
  refine L_v rfl rfl rfl (V_move rfl rfl) ?_
  refine L_v rfl rfl rfl (V_neq rfl rfl rfl rfl) ?_
  refine L_nil ?_
  change J _ _ _ _
  refine J_true rfl ?_
  refine J_seq ?_
  refine J_region ?_
  refine L_v rfl rfl rfl (V_move rfl rfl) ?_
  refine L_v rfl rfl rfl (V_assign rfl rfl) ?_
  refine L_nil ?_
  change J _ _ _ _
  refine J_ret ?_
  change Kret _ _ _ Exit.ret _
  refine ret1 rfl rfl (RV_t rfl) ?_
  exact fun w' h => ⟨rfl, h.fr⟩

theorem stop_0 (n : Int) (w : World) :
    Calls Tryd.prog 27 #[.pointer none, .int .i64 n] w fun e w' => e = .returned (.int .i64 3) ∧ Fr [] w w' := by
  refine calls_of (args := [.pointer none, .int .i64 n]) ([]) ([]) ([]) Tryd.func27 rfl rfl (okW0 _ _ _ _) ?_
  refine J_seq ?_
  refine J_region ?_
  refine L_v rfl rfl rfl (V_assign rfl rfl) ?_
  refine L_nil ?_
  change J _ _ _ _
  refine J_seq ?_
  refine J_seq ?_
  refine J_region ?_
  refine L_v rfl rfl rfl (V_move rfl rfl) ?_
  refine L_callV rfl rfl rfl rfl rfl rfl tx29df (fun w1 hw => ready_0 w1) ?_
  refine L_v rfl rfl rfl (V_assign rfl rfl) ?_
  refine L_nil ?_
  change J _ _ _ _
  refine J_seq ?_
  refine J_region ?_
  refine L_v rfl rfl rfl (V_move rfl rfl) ?_
  refine L_v rfl rfl rfl (V_neq rfl rfl rfl rfl) ?_
  refine L_nil ?_
  change J _ _ _ _
  refine J_true rfl ?_
  refine J_seq ?_
  refine J_region ?_
  refine L_v rfl rfl rfl (V_move rfl rfl) ?_
  refine L_v rfl rfl rfl (V_assign rfl rfl) ?_
  refine L_nil ?_
  change J _ _ _ _
  refine J_ret ?_
  change Kret _ _ _ Exit.ret _
  refine ret1 rfl rfl (RV_t rfl) ?_
  exact fun w' h => ⟨rfl, h.fr⟩

theorem large_w (a : Option Addr) (c : Nat) (l : List OpV) (w : World) (hs : SlC 7 w (.slice a l.length c) l.length (opR l)) :
    Calls Tryd.prog 20 #[.slice a l.length c] w fun e w' => ∃ bl, e = .returned (.bool bl) ∧ Fr [] w w' ∧ (bl = false → l.length ≤ 200 ∧ ∀ j, j < l.length → (l.getD j op0).bytes.length ≤ 100000 ∧ (l.getD j op0).tails.length ≤ 1000) := by
  refine calls_of (args := [.slice a l.length c]) ([]) ([]) ([factC 7 (.slice a l.length c) l.length (opR l)]) Tryd.func20 rfl rfl (okFW (.cons (.slc hs) .nil)) ?_
  refine J_seq ?_
  refine J_region ?_
  refine L_v rfl rfl rfl (V_assign rfl rfl) ?_
  refine L_nil ?_
  change J _ _ _ _
  refine J_seq ?_
  refine J_seq ?_
  refine J_region ?_
  refine L_v rfl rfl rfl (V_move rfl rfl) ?_
  refine L_v rfl rfl rfl (V_len rfl rfl Tryd.underlying40 rfl) ?_
  refine L_v rfl rfl rfl (V_gtr rfl rfl rfl rfl) ?_
  refine L_nil ?_
  change J _ _ _ _
  refine J_cond rfl (fun h1 => ?_) (fun h1 => ?_)
  ·
    first | (have h1 := of_decide_eq_true h1) | (have h1 := of_decide_eq_false h1) | skip
    refine J_seq ?_
    refine J_region ?_
    refine L_v rfl rfl rfl (V_assign rfl rfl) ?_
    refine L_nil ?_
    change J _ _ _ _
    refine J_ret ?_
    change Kret _ _ _ Exit.ret _
    refine ret1 rfl rfl (RV_t rfl) ?_
    exact fun w' h => ⟨true, rfl, h.fr, fun h => by cases h⟩
  ·
    first | (have h1 := of_decide_eq_true h1) | (have h1 := of_decide_eq_false h1) | skip
    have hl2 : l.length ≤ 200 := by omega
    refine J_skip ?_
    change J _ _ _ _
    refine J_seq ?_
    refine J_region ?_
    refine L_v rfl rfl rfl (V_assign rfl rfl) ?_
    refine L_nil ?_
    change J _ _ _ _
    refine J_seq ?_
    refine J_seq ?_
    refine J_region ?_
    refine L_v rfl rfl rfl (V_assign rfl rfl) ?_
    refine L_nil ?_
    change J _ _ _ _
    refine J_block ?_
    refine J_loop (X := Nat × Int) (fun x => { env := [(0, .slice a l.length c), (3, .int .i64 x.2), (4, .int .i64 (x.1 : Int))], facts := [factC 7 (.slice a l.length c) l.length (opR l)] }) (fun x => x.1 ≤ l.length ∧ 0 ≤ x.2 ∧ x.2 ≤ 100000 ∧ ∀ j, j < x.1 → (l.getD j op0).bytes.length ≤ 100000 ∧ (l.getD j op0).tails.length ≤ 1000) (fun x => l.length - x.1) (0, 0) ⟨Nat.zero_le _, Int.le_refl _, by decide, fun j hj => absurd hj (Nat.not_lt_zero _)⟩ ⟨⟨rfl, rfl, rfl, trivial⟩, List.Sublist.refl _, fun f hf => hf, rfl⟩ ?_
    rintro ⟨i, m⟩ ⟨hil, hm0, hm1, hb⟩
    try simp only at hil hm0 hm1 hb ⊢
    refine J_seq ?_
    refine J_seq ?_
    refine J_region ?_
    refine L_v rfl rfl rfl (V_move rfl rfl) ?_
    refine L_v rfl rfl rfl (V_move rfl rfl) ?_
    refine L_v rfl rfl rfl (V_len rfl rfl Tryd.underlying40 rfl) ?_
    refine L_v rfl rfl rfl (V_lss rfl rfl rfl rfl) ?_
    refine L_nil ?_
    change J _ _ _ _
    refine J_cond rfl (fun h2 => ?_) (fun h2 => ?_)
    ·
      first | (have h2 := of_decide_eq_true h2) | (have h2 := of_decide_eq_false h2) | skip
      have hi : i < l.length := by omega
      have hAt : ∃ b off, a = some ⟨b, off, none⟩ := by obtain ⟨b, off, e, _⟩ := hs.cell (op_at hi 0 _ rfl); exact ⟨b, off, e⟩
      refine J_skip ?_
      change J _ _ _ _
      refine J_seq ?_
      refine J_block ?_
      refine J_seq ?_
      refine J_seq ?_
      refine J_region ?_
      refine L_v rfl rfl rfl (V_move rfl rfl) ?_
      refine L_v rfl rfl rfl (V_move rfl rfl) ?_
      refine L_v rfl rfl rfl (V_indexN rfl rfl rfl Tryd.underlying40 sz47df hAt (by omega) (by omega)) ?_
      refine L_v rfl rfl rfl (V_fieldC rfl rfl (fun _ _ => hAt) Tryd.underlying47 rfl sz22df rfl) ?_
      refine L_v rfl rfl rfl (V_loadC rfl rfl Tryd.underlying22 rfl (fun w hw => (hw.fa 0 rfl).1) (op_at hi 3 _ rfl)) ?_
      refine L_v rfl rfl rfl (V_len rfl rfl Tryd.underlying22 rfl) ?_
      refine L_v rfl rfl rfl (V_move rfl rfl) ?_
      refine L_v rfl rfl rfl (V_sub (r := 100000 - m) rfl rfl rfl (by rw [IntKind.wrap_i64]; omega)) ?_
      refine L_v rfl rfl rfl (V_gtr rfl rfl rfl rfl) ?_
      refine L_v rfl rfl rfl (V_move rfl rfl) ?_
      apply L_or 7 23 31
      · rfl
      · rfl
      · rfl
      · rfl
      · rfl
      · rfl
      · rfl
      · kernel_rfl
      · intro hb3 _ _ hk3
        refine L_wv rfl rfl rfl rfl rfl rfl (V_move rfl rfl) ?_
        refine L_wv rfl rfl rfl rfl rfl rfl (V_move rfl rfl) ?_
        refine L_wv rfl rfl rfl rfl rfl rfl (V_indexN rfl rfl rfl Tryd.underlying40 sz47df hAt (by omega) (by omega)) ?_
        refine L_wv rfl rfl rfl rfl rfl rfl (V_fieldC rfl rfl (fun _ _ => hAt) Tryd.underlying47 rfl sz23df rfl) ?_
        refine L_wv rfl rfl rfl rfl rfl rfl (V_loadC rfl rfl Tryd.underlying23 rfl (fun w hw => (hw.fa 0 rfl).1) (op_at hi 5 _ rfl)) ?_
        refine L_wv rfl rfl rfl rfl rfl rfl (V_len rfl rfl Tryd.underlying23 rfl) ?_
        refine L_wv rfl rfl rfl rfl rfl rfl (V_gtr rfl rfl rfl rfl) ?_
        exact hk3 _ ⟨rfl, (by first | simp only [St.put] | rfl), (by first | simp only [St.put] | rfl), (by first | simp only [St.put] | rfl), ext_cut 7 (by kernel_rfl) (by kernel_rfl)⟩
      refine L_nil ?_
      change J _ _ _ _
      refine J_cond rfl (fun h4 => ?_) (fun h4 => ?_)
      ·
        first | (have h4 := of_decide_eq_true h4) | (have h4 := of_decide_eq_false h4) | skip
        refine J_seq ?_
        refine J_region ?_
        refine L_v rfl rfl rfl (V_assign rfl rfl) ?_
        refine L_nil ?_
        change J _ _ _ _
        refine J_ret ?_
        change Kret _ _ _ Exit.ret _
        refine ret1 rfl rfl (RV_t rfl) ?_
        exact fun w' h => ⟨true, rfl, h.fr, fun h => by cases h⟩
      ·
        first | (have h4 := of_decide_eq_true h4) | (have h4 := of_decide_eq_false h4) | skip
        rw [Bool.or_eq_false_iff, decide_eq_false_iff_not, decide_eq_false_iff_not] at h4
        obtain ⟨h5, h6⟩ := h4
        refine J_skip ?_
        change J _ _ _ _
        refine J_region ?_
        refine L_v rfl rfl rfl (V_move rfl rfl) ?_
        refine L_v rfl rfl rfl (V_move rfl rfl) ?_
        refine L_v rfl rfl rfl (V_move rfl rfl) ?_
        refine L_v rfl rfl rfl (V_indexN rfl rfl rfl Tryd.underlying40 sz47df hAt (by omega) (by omega)) ?_
        refine L_v rfl rfl rfl (V_fieldC rfl rfl (fun _ _ => hAt) Tryd.underlying47 rfl sz22df rfl) ?_
        refine L_v rfl rfl rfl (V_loadC rfl rfl Tryd.underlying22 rfl (fun w hw => (hw.fa 0 rfl).1) (op_at hi 3 _ rfl)) ?_
        refine L_v rfl rfl rfl (V_len rfl rfl Tryd.underlying22 rfl) ?_
        refine L_v rfl rfl rfl (V_add (r := m + ((l.getD i op0).bytes.length : Nat)) rfl rfl rfl (by show IntKind.i64.wrap (m + (((l.getD i op0).bytes.length : Nat) : Int)) = _; rw [IntKind.wrap_i64]; omega)) ?_
        refine L_v rfl rfl rfl (V_assign rfl rfl) ?_
        refine L_nil ?_
        change J _ _ _ _
        refine J_region ?_
        refine L_v rfl rfl rfl (V_move rfl rfl) ?_
        refine L_v rfl rfl rfl (V_add (r := ((i + 1 : Nat) : Int)) rfl rfl rfl (by rw [IntKind.wrap_i64]; omega)) ?_
        refine L_v rfl rfl rfl (V_assign rfl rfl) ?_
        refine L_nil ?_
        exact ⟨(i + 1, m + ((l.getD i op0).bytes.length : Nat)), ⟨by show i + 1 ≤ l.length; omega, by show 0 ≤ m + _; omega, by show m + _ ≤ 100000; omega, fun j hj => by
          have hj : j < i + 1 := hj
          by_cases h9 : j = i
          · subst h9
            exact ⟨by omega, by omega⟩
          · exact hb j (by omega)⟩, by show l.length - (i + 1) < l.length - i; omega, ⟨rfl, rfl, rfl, trivial⟩, List.Sublist.refl _, fun f hf => hf, rfl⟩
    ·
      first | (have h2 := of_decide_eq_true h2) | (have h2 := of_decide_eq_false h2) | skip
      refine J_exit ?_
      change J _ _ _ _
      refine J_seq ?_
      refine J_region ?_
      refine L_v rfl rfl rfl (V_assign rfl rfl) ?_
      refine L_nil ?_
      change J _ _ _ _
      refine J_ret ?_
      change Kret _ _ _ Exit.ret _
      refine ret1 rfl rfl (RV_t rfl) ?_
      exact fun w' h => ⟨false, rfl, h.fr, fun _ => ⟨hl2, fun j hj => hb j (by omega)⟩⟩

theorem texts_w (a a2 : Option Addr) (c c2 : Nat) (l m : List Nm) (w : World) (h1_ : SlC 1 w (.slice a l.length c) l.length (nmV l)) (h2_ : SlC 1 w (.slice a2 m.length c2) m.length (nmV m)) (hl9 : l.length ≤ 1099511627776) :
    Calls Tryd.prog 28 #[.slice a l.length c, .slice a2 m.length c2] w fun e w' => e = .returned (.bool (decide (l.map Prod.fst = m.map Prod.fst))) ∧ Fr [] w w' := by
  refine calls_of (args := [.slice a l.length c, .slice a2 m.length c2]) ([]) ([]) ([factC 1 (.slice a l.length c) l.length (nmV l), factC 1 (.slice a2 m.length c2) m.length (nmV m)]) Tryd.func28 rfl rfl (okFW (.cons (.slc h1_) (.cons (.slc h2_) .nil))) ?_
  refine J_seq ?_
  refine J_region ?_
  refine L_v rfl rfl rfl (V_assign rfl rfl) ?_
  refine L_nil ?_
  change J _ _ _ _
  refine J_seq ?_
  refine J_seq ?_
  refine J_region ?_
  refine L_v rfl rfl rfl (V_move rfl rfl) ?_
  refine L_v rfl rfl rfl (V_len rfl rfl Tryd.underlying36 rfl) ?_
  refine L_v rfl rfl rfl (V_move rfl rfl) ?_
  refine L_v rfl rfl rfl (V_len rfl rfl Tryd.underlying36 rfl) ?_
  refine L_v rfl rfl rfl (V_neq rfl rfl rfl rfl) ?_
  refine L_nil ?_
  change J _ _ _ _
  refine J_cond rfl (fun h1 => ?_) (fun h1 => ?_)
  ·
    first | (have h1 := of_decide_eq_true h1) | (have h1 := of_decide_eq_false h1) | skip
    refine J_seq ?_
    refine J_region ?_
    refine L_v rfl rfl rfl (V_assign rfl rfl) ?_
    refine L_nil ?_
    change J _ _ _ _
    refine J_ret ?_
    change Kret _ _ _ Exit.ret _
    refine ret1 rfl rfl (RV_t rfl) ?_
    exact fun w' h => ⟨congrArg (fun b => Ending.returned (Value.bool b)) (decide_eq_false (eqs_len (by rw [List.length_map, List.length_map]; omega))).symm, h.fr⟩
  ·
    first | (have h1 := of_decide_eq_true h1) | (have h1 := of_decide_eq_false h1) | skip
    have hll : l.length = m.length := by omega
    refine J_skip ?_
    change J _ _ _ _
    refine J_seq ?_
    refine J_seq ?_
    refine J_region ?_
    refine L_v rfl rfl rfl (V_assign rfl rfl) ?_
    refine L_nil ?_
    change J _ _ _ _
    refine J_block ?_
    refine J_loop (X := Nat) (fun x => { env := [(0, .slice a l.length c), (1, .slice a2 m.length c2), (5, .int .i64 (x : Int))], facts := [factC 1 (.slice a l.length c) l.length (nmV l), factC 1 (.slice a2 m.length c2) m.length (nmV m)] }) (fun x => x ≤ l.length ∧ (l.map Prod.fst).take x = (m.map Prod.fst).take x) (fun x => l.length - x) 0 ⟨Nat.zero_le _, rfl⟩ ⟨⟨rfl, rfl, rfl, trivial⟩, List.Sublist.refl _, fun f hf => hf, rfl⟩ ?_
    rintro i ⟨hil, htk⟩
    try simp only at hil htk ⊢
    refine J_seq ?_
    refine J_seq ?_
    refine J_region ?_
    refine L_v rfl rfl rfl (V_move rfl rfl) ?_
    refine L_v rfl rfl rfl (V_move rfl rfl) ?_
    refine L_v rfl rfl rfl (V_len rfl rfl Tryd.underlying36 rfl) ?_
    refine L_v rfl rfl rfl (V_lss rfl rfl rfl rfl) ?_
    refine L_nil ?_
    change J _ _ _ _
    refine J_cond rfl (fun h2 => ?_) (fun h2 => ?_)
    ·
      first | (have h2 := of_decide_eq_true h2) | (have h2 := of_decide_eq_false h2) | skip
      have hi : i < l.length := by omega
      have hi2 : i < m.length := by omega
      have hA0 := slC_at h1_ (by intro h9; have h9 := congrArg List.length h9; rw [List.length_map] at h9; have h9 : l.length = 0 := h9; omega)
      have hA1 := slC_at h2_ (by intro h9; have h9 := congrArg List.length h9; rw [List.length_map] at h9; have h9 : m.length = 0 := h9; omega)
      refine J_skip ?_
      change J _ _ _ _
      refine J_seq ?_
      refine J_block ?_
      refine J_seq ?_
      refine J_regionQ rfl (by kernel_rfl) ?_
      refine LQ_v rfl rfl rfl (V_move rfl rfl) ?_
      refine LQ_v rfl rfl rfl (V_move rfl rfl) ?_
      refine LQ_v rfl rfl rfl (V_indexN rfl rfl rfl Tryd.underlying36 sz9df hA0 (by omega) (by omega)) ?_
      refine LQ_v rfl rfl rfl (V_loadC rfl rfl Tryd.underlying9 rfl (fun w hw => (hw.fa 0 rfl).1) (nm_at hi)) ?_
      refine LQ_v rfl rfl rfl (V_move rfl rfl) ?_
      refine LQ_v rfl rfl rfl (V_move rfl rfl) ?_
      refine LQ_v rfl rfl rfl (V_indexN rfl rfl rfl Tryd.underlying36 sz9df hA1 (by omega) (by omega)) ?_
      refine LQ_v rfl rfl rfl (V_loadC rfl rfl Tryd.underlying9 rfl (fun w hw => (hw.fa 1 rfl).1) (nm_at hi2)) ?_
      refine LQ_v rfl rfl rfl (V_neS rfl rfl rfl rfl) ?_
      refine LQ_nil ?_
      change J _ _ _ _
      refine J_cond rfl (fun h3 => ?_) (fun h3 => ?_)
      ·
        first | (have h3 := of_decide_eq_true h3) | (have h3 := of_decide_eq_false h3) | skip
        refine J_seq ?_
        refine J_region ?_
        refine L_v rfl rfl rfl (V_assign rfl rfl) ?_
        refine L_nil ?_
        change J _ _ _ _
        refine J_ret ?_
        change Kret _ _ _ Exit.ret _
        refine ret1 rfl rfl (RV_t rfl) ?_
        exact fun w' h => ⟨congrArg (fun b => Ending.returned (Value.bool b)) (decide_eq_false (eqs_ne (i := i) e0 (by rw [keyD hi, keyD hi2]; exact h3))).symm, h.fr⟩
      ·
        first | (have h3 := of_decide_eq_true h3) | (have h3 := of_decide_eq_false h3) | skip
        refine J_skip ?_
        change J _ _ _ _
        refine J_region ?_
        refine L_v rfl rfl rfl (V_move rfl rfl) ?_
        refine L_v rfl rfl rfl (V_add (r := ((i + 1 : Nat) : Int)) rfl rfl rfl (by rw [IntKind.wrap_i64]; omega)) ?_
        refine L_v rfl rfl rfl (V_assign rfl rfl) ?_
        refine L_nil ?_
        exact ⟨i + 1, ⟨by omega, eqs_step e0 (by simpa using hi) (by simpa using hi2) htk (by rw [keyD hi, keyD hi2]; exact Classical.not_not.1 h3)⟩, by omega, ⟨rfl, rfl, rfl, trivial⟩, List.Sublist.refl _, fun f hf => hf, rfl⟩
    ·
      first | (have h2 := of_decide_eq_true h2) | (have h2 := of_decide_eq_false h2) | skip
      refine J_exit ?_
      change J _ _ _ _
      refine J_seq ?_
      refine J_region ?_
      refine L_v rfl rfl rfl (V_assign rfl rfl) ?_
      refine L_nil ?_
      change J _ _ _ _
      refine J_ret ?_
      change Kret _ _ _ Exit.ret _
      refine ret1 rfl rfl (RV_t rfl) ?_
      exact fun w' h => ⟨congrArg (fun b => Ending.returned (Value.bool b)) (decide_eq_true (eqs_all (i := i) (by simpa using hll) (by simp; omega) htk)).symm, h.fr⟩

set_option maxHeartbeats 4000000 in
theorem call_w (b1 : Nat) (D : Dk) (H : DkH) (o : OpV) (w : World) {k : Nat} (hM : MemAt w (dkM b1 D H)) (hG : Good D H) (hW : WfD D k) (hk : k ≤ 549755813888) (hF : ∀ f ∈ [opF o], f.p w ∧ ∀ k, f.fp k → k < w.heap.size ∧ k ∉ (dkM b1 D H).map (·.1)) (hB : o.bytes.length ≤ 1048576) :
    Calls Tryd.prog 22 #[.pointer (some ⟨b1, 0, none⟩), .agg (opC o).toArray] w fun e w' => DkP b1 D H w (opD D o) (.int .i64 (opE D o)) e w' := by
  refine calls_of (args := [.pointer (some ⟨b1, 0, none⟩), .agg (opC o).toArray]) ((dkM b1 D H).map (·.1)) (dkM b1 D H) ([opF o]) Tryd.func22 rfl rfl (okMem hM hF) ?_
  refine J_seq ?_
  refine J_region ?_
  refine L_box rfl rfl rfl rfl rfl (fun b0 => ?_)
  refine L_pk ((b0, row 47 (opC o)) :: dkM b1 D H) (Pk.front _ _) ?_
  refine L_v rfl rfl rfl (V_assign rfl rfl) ?_
  refine L_nil ?_
  change J _ _ _ _
  refine J_seq ?_
  refine J_seq ?_
  refine J_region ?_
  refine L_v rfl rfl rfl (V_fieldAddr rfl rfl Tryd.underlying47 rfl sz3df rfl) ?_
  refine L_v rfl rfl rfl (V_load1 0 rfl rfl rfl Tryd.underlying3 rfl (by rfl)) ?_
  refine L_nil ?_
  change J _ _ _ _
  refine J_block ?_
  refine J_seq ?_
  refine J_region ?_
  refine L_v rfl rfl rfl (V_eql rfl rfl rfl rfl) ?_
  refine L_v rfl rfl rfl (V_assign rfl rfl) ?_
  refine L_nil ?_
  change J _ _ _ _
  refine J_cond rfl (fun h1 => ?_) (fun h1 => ?_)
  ·
    first | (have h1 := of_decide_eq_true h1) | (have h1 := of_decide_eq_false h1) | skip
    refine J_seq ?_
    refine J_region ?_
    refine L_v rfl rfl rfl (V_move rfl rfl) ?_
    refine L_v rfl rfl rfl (V_fieldAddr rfl rfl Tryd.underlying47 rfl sz9df rfl) ?_
    refine L_v rfl rfl rfl (V_load1 0 rfl rfl rfl Tryd.underlying9 rfl (by rfl)) ?_
    refine L_call rfl rfl rfl rfl tx10df (fun w1 hw => (create_w b1 D H o.file w1 (hw.memAt (List.Sublist.cons _ (List.Sublist.refl _))) hG hW hk).mono ?_)
    rintro e w' ⟨H', rfl, hG', hU⟩
    refine ⟨_, _, _, rfl, OkW.upd (m1 := [(b0, row 47 (opC o))]) hw hU, rfl, ?_⟩
    refine L_v rfl rfl rfl (V_assign rfl rfl) ?_
    refine L_nil ?_
    change J _ _ _ _
    refine J_ret ?_
    change Kret _ _ _ Exit.ret _
    refine ret1 rfl rfl (RV_t rfl) ?_
    exact fun w' h => DkP.ok (op_1 h1).1 (op_1 h1).2 ⟨H', rfl, hG', Upd.of h rfl (Pk.of_sub (List.Sublist.cons _ (List.Sublist.refl _))) (fun f hf => by cases hf) (fun f hf => by cases hf)⟩
  ·
    first | (have h1 := of_decide_eq_true h1) | (have h1 := of_decide_eq_false h1) | skip
    refine J_seq ?_
    refine J_region ?_
    refine L_v rfl rfl rfl (V_eql rfl rfl rfl rfl) ?_
    refine L_v rfl rfl rfl (V_assign rfl rfl) ?_
    refine L_nil ?_
    change J _ _ _ _
    refine J_cond rfl (fun h2 => ?_) (fun h2 => ?_)
    ·
      first | (have h2 := of_decide_eq_true h2) | (have h2 := of_decide_eq_false h2) | skip
      refine J_seq ?_
      refine J_region ?_
      refine L_v rfl rfl rfl (V_fieldAddr rfl rfl Tryd.underlying47 rfl sz22df rfl) ?_
      refine L_v rfl rfl rfl (V_load1 0 rfl rfl rfl Tryd.underlying22 rfl (by rfl)) ?_
      refine L_call rfl rfl rfl rfl tx39df (fun w1 hw => (lent_w o.ba o.bytes.length o.bc o.bytes w1 (hw.fa 0 rfl).1.1 hB).mono ?_)
      rintro e w' ⟨g, r, cc, rfl, hn, hcc, hrl⟩
      refine ⟨_, _, _, rfl, hn.okW hw, rfl, ?_⟩
      refine L_pk ((g, row 5 (dg o.bytes ++ (dg (List.replicate 8 165) ++ r))) :: (b0, row 47 (opC o)) :: dkM b1 D H) (Pk.front _ _) ?_
      refine L_v rfl rfl rfl (V_assign rfl rfl) ?_
      refine L_nil ?_
      change J _ _ _ _
      refine J_seq ?_
      refine J_region ?_
      refine L_v rfl rfl rfl (V_move rfl rfl) ?_
      refine L_v rfl rfl rfl (V_fieldAddr rfl rfl Tryd.underlying47 rfl sz9df rfl) ?_
      refine L_v rfl rfl rfl (V_load1 1 rfl rfl rfl Tryd.underlying9 rfl (by rfl)) ?_
      refine L_v rfl rfl rfl (V_move rfl rfl) ?_
      refine L_call rfl rfl rfl rfl tx11df (fun w1 hw => (append_w b1 D H o.file (some ⟨g, 0, none⟩) cc o.bytes w1 (hw.memAt (List.Sublist.cons _ (List.Sublist.cons _ (List.Sublist.refl _)))) hG hW hk (own_hBr hw (List.Sublist.cons _ (List.Sublist.refl _)) cc)).mono ?_)
      rintro e w' ⟨H', rfl, hG', hU⟩
      refine ⟨_, _, _, rfl, OkW.upd (m1 := [(g, row 5 (dg o.bytes ++ (dg (List.replicate 8 165) ++ r))), (b0, row 47 (opC o))]) hw hU, rfl, ?_⟩
      refine L_v rfl rfl rfl (V_assign rfl rfl) ?_
      refine L_nil ?_
      change J _ _ _ _
      refine J_seq ?_
      refine J_seq ?_
      refine J_region ?_
      refine L_v rfl rfl rfl (V_move rfl rfl) ?_
      refine L_v rfl rfl rfl (V_fieldAddr rfl rfl Tryd.underlying47 rfl sz22df rfl) ?_
      refine L_v rfl rfl rfl (V_load1 1 rfl rfl rfl Tryd.underlying22 rfl (by rfl)) ?_
      refine L_callV rfl rfl rfl rfl rfl rfl tx40df (fun w1 hw => kept_w (some ⟨g, 0, none⟩) o.bytes.length cc o.bytes o.ba o.bc w1 (SlB.in hw (List.mem_cons_self ..) rfl cc) (SlB.in (l := o.bytes ++ List.replicate 8 165) (r := r) hw (by rw [dg_append, List.append_assoc]; exact List.mem_cons_self ..) (by rw [List.length_append, List.length_replicate]) cc) (hw.fa 0 rfl).1.1 hB hcc) ?_
      refine L_v rfl rfl rfl (V_not rfl rfl rfl) ?_
      refine L_nil ?_
      change J _ _ _ _
      refine J_false rfl ?_
      refine J_skip ?_
      change J _ _ _ _
      refine J_seq ?_
      refine J_seq ?_
      refine J_region ?_
      refine L_v rfl rfl rfl (V_assign rfl rfl) ?_
      refine L_nil ?_
      change J _ _ _ _
      refine J_block ?_
      refine J_loop (X := Nat × List Value) (fun x => { env := [(5, .slice (some ⟨g, 0, none⟩) o.bytes.length cc), (6, .int .i64 (appendE D o.file o.bytes)), (7, .int .i64 (x.1 : Int))], mem := (g, row 5 x.2) :: dkM b1 (appendD D o.file o.bytes) H', facts := [] }) (fun x => x.1 ≤ o.bytes.length ∧ o.bytes.length ≤ x.2.length) (fun x => o.bytes.length - x.1) (0, (dg o.bytes ++ (dg (List.replicate 8 165) ++ r))) ⟨Nat.zero_le _, by rw [List.length_append, dg_length]; omega⟩ ⟨⟨rfl, rfl, rfl, trivial⟩, (show List.Sublist ((g, _) :: dkM b1 _ H') ([(g, _), (b0, row 47 (opC o))] ++ dkM b1 _ H') from List.Sublist.cons_cons _ (List.Sublist.cons _ (List.Sublist.refl _))), fun f hf => (by cases hf), rfl⟩ ?_
      rintro ⟨i, cs⟩ ⟨hin, hcl⟩
      try simp only at hin hcl ⊢
      refine J_seq ?_
      refine J_seq ?_
      refine J_region ?_
      refine L_v rfl rfl rfl (V_move rfl rfl) ?_
      refine L_v rfl rfl rfl (V_move rfl rfl) ?_
      refine L_v rfl rfl rfl (V_len rfl rfl Tryd.underlying22 rfl) ?_
      refine L_v rfl rfl rfl (V_lss rfl rfl rfl rfl) ?_
      refine L_nil ?_
      change J _ _ _ _
      refine J_cond rfl (fun h3 => ?_) (fun h3 => ?_)
      ·
        first | (have h3 := of_decide_eq_true h3) | (have h3 := of_decide_eq_false h3) | skip
        refine J_skip ?_
        change J _ _ _ _
        refine J_seq ?_
        refine J_block ?_
        refine J_region ?_
        refine L_v rfl rfl rfl (V_move rfl rfl) ?_
        refine L_v rfl rfl rfl (V_move rfl rfl) ?_
        refine L_v rfl rfl rfl (V_indexSl rfl rfl rfl Tryd.underlying22 sz5df (by omega) (by omega) rfl) ?_
        refine L_store1 0 (l := cs) (l' := cs.set i (.int .u8 119)) rfl rfl rfl rfl rfl rfl rfl sz5df (by show 0 + i * 1 < _; omega) (by show cs.set (0 + i * 1) _ = _; rw [Nat.zero_add, Nat.mul_one]) ?_
        refine L_nil ?_
        change J _ _ _ _
        refine J_region ?_
        refine L_v rfl rfl rfl (V_move rfl rfl) ?_
        refine L_v rfl rfl rfl (V_add (r := ((i + 1 : Nat) : Int)) rfl rfl rfl (by rw [IntKind.wrap_i64]; omega)) ?_
        refine L_v rfl rfl rfl (V_assign rfl rfl) ?_
        refine L_nil ?_
        exact ⟨(i + 1, cs.set i (.int .u8 119)), ⟨by show i + 1 ≤ _; omega, by show _ ≤ (cs.set i _).length; rw [List.length_set]; exact hcl⟩, by show o.bytes.length - (i + 1) < o.bytes.length - i; omega, ⟨rfl, rfl, rfl, trivial⟩, List.Sublist.refl _, fun f hf => hf, rfl⟩
      ·
        first | (have h3 := of_decide_eq_true h3) | (have h3 := of_decide_eq_false h3) | skip
        refine J_exit ?_
        change J _ _ _ _
        refine J_seq ?_
        refine J_region ?_
        refine L_v rfl rfl rfl (V_move rfl rfl) ?_
        refine L_v rfl rfl rfl (V_assign rfl rfl) ?_
        refine L_nil ?_
        change J _ _ _ _
        refine J_ret ?_
        change Kret _ _ _ Exit.ret _
        refine ret1 rfl rfl (RV_t rfl) ?_
        exact fun w' h => DkP.ok (op_2 h2).1 (op_2 h2).2 ⟨H', rfl, hG', Upd.of h rfl (Pk.of_sub (List.Sublist.cons _ (List.Sublist.refl _))) (fun f hf => by cases hf) (fun f hf => by cases hf)⟩
    ·
      first | (have h2 := of_decide_eq_true h2) | (have h2 := of_decide_eq_false h2) | skip
      refine J_seq ?_
      refine J_region ?_
      refine L_v rfl rfl rfl (V_eql rfl rfl rfl rfl) ?_
      refine L_v rfl rfl rfl (V_assign rfl rfl) ?_
      refine L_nil ?_
      change J _ _ _ _
      refine J_cond rfl (fun h3 => ?_) (fun h3 => ?_)
      ·
        first | (have h3 := of_decide_eq_true h3) | (have h3 := of_decide_eq_false h3) | skip
        refine J_seq ?_
        refine J_region ?_
        refine L_v rfl rfl rfl (V_move rfl rfl) ?_
        refine L_v rfl rfl rfl (V_fieldAddr rfl rfl Tryd.underlying47 rfl sz9df rfl) ?_
        refine L_v rfl rfl rfl (V_load1 0 rfl rfl rfl Tryd.underlying9 rfl (by rfl)) ?_
        refine L_call rfl rfl rfl rfl tx12df (fun w1 hw => (sync_w b1 D H o.file w1 (hw.memAt (List.Sublist.cons _ (List.Sublist.refl _))) hG hW hk).mono ?_)
        rintro e w' ⟨H', rfl, hG', hU⟩
        refine ⟨_, _, _, rfl, OkW.upd (m1 := [(b0, row 47 (opC o))]) hw hU, rfl, ?_⟩
        refine L_v rfl rfl rfl (V_assign rfl rfl) ?_
        refine L_nil ?_
        change J _ _ _ _
        refine J_ret ?_
        change Kret _ _ _ Exit.ret _
        refine ret1 rfl rfl (RV_t rfl) ?_
        exact fun w' h => DkP.ok (op_3 h3).1 (op_3 h3).2 ⟨H', rfl, hG', Upd.of h rfl (Pk.of_sub (List.Sublist.cons _ (List.Sublist.refl _))) (fun f hf => by cases hf) (fun f hf => by cases hf)⟩
      ·
        first | (have h3 := of_decide_eq_true h3) | (have h3 := of_decide_eq_false h3) | skip
        refine J_seq ?_
        refine J_region ?_
        refine L_v rfl rfl rfl (V_eql rfl rfl rfl rfl) ?_
        refine L_v rfl rfl rfl (V_assign rfl rfl) ?_
        refine L_nil ?_
        change J _ _ _ _
        refine J_cond rfl (fun h4 => ?_) (fun h4 => ?_)
        ·
          first | (have h4 := of_decide_eq_true h4) | (have h4 := of_decide_eq_false h4) | skip
          refine J_seq ?_
          refine J_region ?_
          refine L_v rfl rfl rfl (V_move rfl rfl) ?_
          refine L_v rfl rfl rfl (V_fieldAddr rfl rfl Tryd.underlying47 rfl sz9df rfl) ?_
          refine L_v rfl rfl rfl (V_load1 0 rfl rfl rfl Tryd.underlying9 rfl (by rfl)) ?_
          refine L_v rfl rfl rfl (V_fieldAddr rfl rfl Tryd.underlying47 rfl sz9df rfl) ?_
          refine L_v rfl rfl rfl (V_load1 0 rfl rfl rfl Tryd.underlying9 rfl (by rfl)) ?_
          refine L_call rfl rfl rfl rfl tx14df (fun w1 hw => (rename_w b1 D H o.file o.to w1 (hw.memAt (List.Sublist.cons _ (List.Sublist.refl _))) hG hW hk).mono ?_)
          rintro e w' ⟨H', rfl, hG', hU⟩
          refine ⟨_, _, _, rfl, OkW.upd (m1 := [(b0, row 47 (opC o))]) hw hU, rfl, ?_⟩
          refine L_v rfl rfl rfl (V_assign rfl rfl) ?_
          refine L_nil ?_
          change J _ _ _ _
          refine J_ret ?_
          change Kret _ _ _ Exit.ret _
          refine ret1 rfl rfl (RV_t rfl) ?_
          exact fun w' h => DkP.ok (op_4 h4).1 (op_4 h4).2 ⟨H', rfl, hG', Upd.of h rfl (Pk.of_sub (List.Sublist.cons _ (List.Sublist.refl _))) (fun f hf => by cases hf) (fun f hf => by cases hf)⟩
        ·
          first | (have h4 := of_decide_eq_true h4) | (have h4 := of_decide_eq_false h4) | skip
          refine J_seq ?_
          refine J_region ?_
          refine L_v rfl rfl rfl (V_eql rfl rfl rfl rfl) ?_
          refine L_v rfl rfl rfl (V_assign rfl rfl) ?_
          refine L_nil ?_
          change J _ _ _ _
          refine J_cond rfl (fun h5 => ?_) (fun h5 => ?_)
          ·
            first | (have h5 := of_decide_eq_true h5) | (have h5 := of_decide_eq_false h5) | skip
            refine J_seq ?_
            refine J_region ?_
            refine L_v rfl rfl rfl (V_move rfl rfl) ?_
            refine L_v rfl rfl rfl (V_fieldAddr rfl rfl Tryd.underlying47 rfl sz9df rfl) ?_
            refine L_v rfl rfl rfl (V_load1 0 rfl rfl rfl Tryd.underlying9 rfl (by rfl)) ?_
            refine L_call rfl rfl rfl rfl tx19df (fun w1 hw => (remove_w b1 D H o.file w1 (hw.memAt (List.Sublist.cons _ (List.Sublist.refl _))) hG hW hk).mono ?_)
            rintro e w' ⟨H', rfl, hG', hU⟩
            refine ⟨_, _, _, rfl, OkW.upd (m1 := [(b0, row 47 (opC o))]) hw hU, rfl, ?_⟩
            refine L_v rfl rfl rfl (V_assign rfl rfl) ?_
            refine L_nil ?_
            change J _ _ _ _
            refine J_ret ?_
            change Kret _ _ _ Exit.ret _
            refine ret1 rfl rfl (RV_t rfl) ?_
            exact fun w' h => DkP.ok (op_5 h5).1 (op_5 h5).2 ⟨H', rfl, hG', Upd.of h rfl (Pk.of_sub (List.Sublist.cons _ (List.Sublist.refl _))) (fun f hf => by cases hf) (fun f hf => by cases hf)⟩
          ·
            first | (have h5 := of_decide_eq_true h5) | (have h5 := of_decide_eq_false h5) | skip
            refine J_seq ?_
            refine J_region ?_
            refine L_v rfl rfl rfl (V_eql rfl rfl rfl rfl) ?_
            refine L_v rfl rfl rfl (V_assign rfl rfl) ?_
            refine L_nil ?_
            change J _ _ _ _
            refine J_cond rfl (fun h6 => ?_) (fun h6 => ?_)
            ·
              first | (have h6 := of_decide_eq_true h6) | (have h6 := of_decide_eq_false h6) | skip
              refine J_seq ?_
              refine J_region ?_
              refine L_v rfl rfl rfl (V_move rfl rfl) ?_
              refine L_call rfl rfl rfl rfl tx13df (fun w1 hw => (syncNames_w b1 D H  w1 (hw.memAt (List.Sublist.cons _ (List.Sublist.refl _))) hG hW hk).mono ?_)
              rintro e w' ⟨H', rfl, hG', hU⟩
              refine ⟨_, _, _, rfl, OkW.upd (m1 := [(b0, row 47 (opC o))]) hw hU, rfl, ?_⟩
              refine L_v rfl rfl rfl (V_assign rfl rfl) ?_
              refine L_nil ?_
              change J _ _ _ _
              refine J_ret ?_
              change Kret _ _ _ Exit.ret _
              refine ret1 rfl rfl (RV_t rfl) ?_
              exact fun w' h => DkP.ok (op_6 h6).1 (op_6 h6).2 ⟨H', rfl, hG', Upd.of h rfl (Pk.of_sub (List.Sublist.cons _ (List.Sublist.refl _))) (fun f hf => by cases hf) (fun f hf => by cases hf)⟩
            ·
              first | (have h6 := of_decide_eq_true h6) | (have h6 := of_decide_eq_false h6) | skip
              refine J_seq ?_
              refine J_region ?_
              refine L_v rfl rfl rfl (V_eql rfl rfl rfl rfl) ?_
              refine L_v rfl rfl rfl (V_assign rfl rfl) ?_
              refine L_nil ?_
              change J _ _ _ _
              refine J_cond rfl (fun h7 => ?_) (fun h7 => ?_)
              ·
                first | (have h7 := of_decide_eq_true h7) | (have h7 := of_decide_eq_false h7) | skip
                refine J_seq ?_
                refine J_region ?_
                refine L_v rfl rfl rfl (V_move rfl rfl) ?_
                refine L_v rfl rfl rfl (V_fieldAddr rfl rfl Tryd.underlying47 rfl sz3df rfl) ?_
                refine L_v rfl rfl rfl (V_load1 0 rfl rfl rfl Tryd.underlying3 rfl (by rfl)) ?_
                refine L_call rfl rfl rfl rfl tx27df (fun w1 hw => (stop_w b1 D H o.n w1 (hw.memAt (List.Sublist.cons _ (List.Sublist.refl _))) hG hW hk).mono ?_)
                rintro e w' ⟨H', rfl, hG', hU⟩
                refine ⟨_, _, _, rfl, OkW.upd (m1 := [(b0, row 47 (opC o))]) hw hU, rfl, ?_⟩
                refine L_v rfl rfl rfl (V_assign rfl rfl) ?_
                refine L_nil ?_
                change J _ _ _ _
                refine J_ret ?_
                change Kret _ _ _ Exit.ret _
                refine ret1 rfl rfl (RV_t rfl) ?_
                exact fun w' h => DkP.ok (op_7 h7).1 (op_7 h7).2 ⟨H', rfl, hG', Upd.of h rfl (Pk.of_sub (List.Sublist.cons _ (List.Sublist.refl _))) (fun f hf => by cases hf) (fun f hf => by cases hf)⟩
              ·
                first | (have h7 := of_decide_eq_true h7) | (have h7 := of_decide_eq_false h7) | skip
                refine J_seq ?_
                refine J_region ?_
                refine L_v rfl rfl rfl (V_eql rfl rfl rfl rfl) ?_
                refine L_v rfl rfl rfl (V_assign rfl rfl) ?_
                refine L_nil ?_
                change J _ _ _ _
                refine J_cond rfl (fun h8 => ?_) (fun h8 => ?_)
                ·
                  first | (have h8 := of_decide_eq_true h8) | (have h8 := of_decide_eq_false h8) | skip
                  refine J_seq ?_
                  refine J_region ?_
                  refine L_v rfl rfl rfl (V_move rfl rfl) ?_
                  refine L_v rfl rfl rfl (V_fieldAddr rfl rfl Tryd.underlying47 rfl sz3df rfl) ?_
                  refine L_v rfl rfl rfl (V_load1 0 rfl rfl rfl Tryd.underlying3 rfl (by rfl)) ?_
                  refine L_v rfl rfl rfl (V_fieldAddr rfl rfl Tryd.underlying47 rfl sz23df rfl) ?_
                  refine L_v rfl rfl rfl (V_load1 0 rfl rfl rfl Tryd.underlying23 rfl (by rfl)) ?_
                  refine L_v rfl rfl rfl (V_fieldAddr rfl rfl Tryd.underlying47 rfl sz5df rfl) ?_
                  refine L_v rfl rfl rfl (V_load1 0 rfl rfl rfl Tryd.underlying5 rfl (by rfl)) ?_
                  refine L_call rfl rfl rfl rfl tx15df (fun w1 hw => (crash_w b1 D H o.n o.ta o.tc o.tails o.noise w1 (hw.memAt (List.Sublist.cons _ (List.Sublist.refl _))) hG hW hk (op_hT hw (List.mem_singleton.2 rfl) (List.Sublist.cons _ (List.Sublist.refl _)))).mono ?_)
                  rintro e w' ⟨H', rfl, hG', hU⟩
                  refine ⟨_, _, _, rfl, OkW.upd (m1 := [(b0, row 47 (opC o))]) hw hU, rfl, ?_⟩
                  refine L_v rfl rfl rfl (V_assign rfl rfl) ?_
                  refine L_nil ?_
                  change J _ _ _ _
                  refine J_ret ?_
                  change Kret _ _ _ Exit.ret _
                  refine ret1 rfl rfl (RV_t rfl) ?_
                  exact fun w' h => DkP.ok (op_8 h8).1 (op_8 h8).2 ⟨H', rfl, hG', Upd.of h rfl (Pk.of_sub (List.Sublist.cons _ (List.Sublist.refl _))) (fun f hf => by cases hf) (fun f hf => by cases hf)⟩
                ·
                  first | (have h8 := of_decide_eq_true h8) | (have h8 := of_decide_eq_false h8) | skip
                  refine J_skip ?_
                  change J _ _ _ _
                  refine J_seq ?_
                  refine J_region ?_
                  refine L_v rfl rfl rfl (V_assign rfl rfl) ?_
                  refine L_nil ?_
                  change J _ _ _ _
                  refine J_ret ?_
                  change Kret _ _ _ Exit.ret _
                  refine ret1 rfl rfl (RV_t rfl) ?_
                  exact fun w' h => DkP.no hG (op_9 h1 h2 h3 h4 h5 h6 h7 h8).1 (op_9 h1 h2 h3 h4 h5 h6 h7 h8).2 (Upd.of h rfl (Pk.of_sub (List.Sublist.cons _ (List.Sublist.refl _))) (fun f hf => by cases hf) (fun f hf => by cases hf))

end Go.Proofs.YtcbpgnjlbbjieaaDoor
