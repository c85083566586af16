/- The disk's calls, with what is told as facts; the document's rows. -/
import Derived.Test.YtcbpgnjlbbjieaaDoorD4
set_option linter.unusedVariables false
set_option linter.unusedSimpArgs false
set_option maxRecDepth 100000
namespace Go.Proofs.YtcbpgnjlbbjieaaDoor
open Go.Sx
theorem NewF.toB {w w' : World} {v : Value} {l : List Int} (h : NewF w w' (factC 1 v l.length (dg l))) : NewF w w' (factB v l) := by
  have h1 : SlB w' v l := SlC.toB' h.fa.1
  refine ⟨⟨h1, fun k hk => factB_lt h1 k hk⟩, fun k hk => h.new k ⟨fun e => hk.1 ?_, hk.2⟩⟩
  have := congrArg List.length e
  rw [dg_length] at this
  exact List.length_eq_zero_iff.1 this
theorem Upd.newC {w w' : World} {e : TypeId} {q : OwnP} {sz n : Nat} {ks : List Value} (h : Upd [] w w' (pM e q ks) []) (hq : PC sz q n ks) : NewF w w' (factC sz (.slice (pA q) n (pC q)) n ks) :=
  hq.newF (fun g o ho => h.newL.at_ g o ho)
theorem read_f (b0 : Nat) (D : Dk) (H : DkH) (f : ByteArray) (w : World) {k : Nat} (hM : MemAt w (dkM b0 D H)) (hG : Good D H) (hW : WfD D k) : Calls Tryd.prog 16 #[.pointer (some ⟨b0, 0, none⟩), .string f] w fun e w' =>
    ∃ (a : Option Addr) (c : Nat), (readB D f).length ≤ c ∧ e = .returned (.tuple #[.slice a (readB D f).length c, .int .i64 (readE D f)]) ∧ Fr [] w w' ∧ NewF w w' (factB (.slice a (readB D f).length c) (readB D f)) := by
  refine (read_w b0 D H f w hM hG hW).mono ?_
  rintro e w' ⟨q, rfl, hq, hU⟩
  exact ⟨pA q, pC q, hq.le, rfl, hU.fr, NewF.toB (Upd.newC hU hq)⟩
theorem names_f (b0 : Nat) (D : Dk) (H : DkH) (w : World) {k : Nat} (hM : MemAt w (dkM b0 D H)) (hG : Good D H) (hW : WfD D k) (hk : k ≤ 549755813888) : Calls Tryd.prog 18 #[.pointer (some ⟨b0, 0, none⟩)] w fun e w' =>
    ∃ (a : Option Addr) (c : Nat), e = .returned (.slice a D.all.length c) ∧ Fr [] w w' ∧ NewF w w' (factC 1 (.slice a D.all.length c) D.all.length (nmV D.all)) := by
  refine (names_w b0 D H w hM hG hW hk).mono ?_
  rintro e w' ⟨q, rfl, hq, hU⟩
  exact ⟨pA q, pC q, rfl, hU.fr, Upd.newC hU hq⟩
/-- A row of one's own ahead of the disk, as a fact beside it. -/
theorem own_hB {cx : Cx} {m : Mem} {fs : List Fact} {w : World} {g : Nat} {l : List Int} {T : TypeId} {fz : Nat × Nat} (h : OkW cx ((g, .cells (dg l).toArray T fz) :: m) fs w) (c : Nat) : ∀ f ∈ [factB (.slice (some ⟨g, 0, none⟩) l.length c) l], f.p w ∧ ∀ k, f.fp k → k < w.heap.size ∧ k ∉ m.map (·.1) := by
  intro f hf
  obtain rfl := List.mem_singleton.1 hf
  have h1 : SlB w (.slice (some ⟨g, 0, none⟩) l.length c) l := SlB.of_mem (i := 0) h rfl c
  refine ⟨h1, fun k hk => ⟨factB_lt h1 k hk, ?_⟩⟩
  obtain ⟨_, off, n, c', e⟩ := hk
  simp only [Value.slice.injEq, Option.some.injEq, Addr.mk.injEq] at e
  obtain rfl := e.1.1
  have := h.dis
  rw [List.map_cons, List.nodup_cons] at this
  exact this.1
theorem own_hC {cx : Cx} {m : Mem} {fs : List Fact} {w : World} {g : Nat} {l : List Int} {T : TypeId} {fz : Nat × Nat} (h : OkW cx ((g, .cells (intV l).toArray T fz) :: m) fs w) (c : Nat) : ∀ f ∈ [factC 1 (.slice (some ⟨g, 0, none⟩) l.length c) l.length (intV l)], f.p w ∧ ∀ k, f.fp k → k < w.heap.size ∧ k ∉ m.map (·.1) := by
  intro f hf
  obtain rfl := List.mem_singleton.1 hf
  have h1 : SlC 1 w (.slice (some ⟨g, 0, none⟩) l.length c) l.length (intV l) := SlC.of_own (i := 0) (r := []) h (by rw [List.append_nil]; rfl) (by rw [List.length_map, Nat.mul_one]) c
  refine ⟨h1, fun k hk => ⟨factC_lt h1 k hk, ?_⟩⟩
  obtain ⟨_, off, n, c', e⟩ := hk
  simp only [Value.slice.injEq, Option.some.injEq, Addr.mk.injEq] at e
  obtain rfl := e.1.1
  have := h.dis
  rw [List.map_cons, List.nodup_cons] at this
  exact this.1
theorem nil_hC {w : World} {m : Mem} : ∀ f ∈ [factC 1 (.slice none ([] : List Int).length 0) ([] : List Int).length (intV [])], f.p w ∧ ∀ k, f.fp k → k < w.heap.size ∧ k ∉ m.map (·.1) := by
  intro f hf
  obtain rfl := List.mem_singleton.1 hf
  exact ⟨.inl ⟨rfl, rfl, _, _, rfl⟩, fun k hk => absurd rfl hk.1⟩
def sA : ByteArray := ⟨#[97]⟩
def sB : ByteArray := ⟨#[98]⟩
def sN : ByteArray := ⟨#[110]⟩
def aw0 : Dk := newD 10
def aw1 : Dk := createD aw0 sA
def aw2 : Dk := appendD aw1 sA [97, 98, 99]
def aw3 : Dk := syncD aw2 sA
def aw4 : Dk := namesD aw3
def aw5 : Dk := appendD aw4 sA [100, 101, 102]
def aw6 : Dk := crashD aw5 0 [2] 0
def aw7 : Dk := createD aw6 sB
def aw8 : Dk := appendD aw7 sB [120]
def aw9 : Dk := syncD aw8 sB
def aw10 : Dk := renameD aw9 sB sA
def aw11 : Dk := crashD aw10 2 [] 0
theorem wf0 : WfD aw0 0 := .new (by decide)
theorem wf1 : WfD aw1 1 := wf0.create _
theorem wf2 : WfD aw2 1 := wf1.append _ _
theorem wf3 : WfD aw3 1 := wf2.sync _
theorem wf4 : WfD aw4 1 := wf3.names
theorem wf5 : WfD aw5 1 := wf4.append _ _
theorem wf6 : WfD aw6 1 := wf5.crash _ _ _
theorem wf7 : WfD aw7 2 := wf6.create _
theorem wf8 : WfD aw8 2 := wf7.append _ _
theorem wf9 : WfD aw9 2 := wf8.sync _
theorem wf10 : WfD aw10 3 := wf9.rename _ _
theorem wf11 : WfD aw11 3 := wf10.crash _ _ _
theorem tx9de : Txt Tryd.prog 9 := txt_of Tryd.func9 rfl (by kernel_rfl)
theorem tx10de : Txt Tryd.prog 10 := txt_of Tryd.func10 rfl (by kernel_rfl)
theorem tx11de : Txt Tryd.prog 11 := txt_of Tryd.func11 rfl (by kernel_rfl)
theorem tx12de : Txt Tryd.prog 12 := txt_of Tryd.func12 rfl (by kernel_rfl)
theorem tx13de : Txt Tryd.prog 13 := txt_of Tryd.func13 rfl (by kernel_rfl)
theorem tx14de : Txt Tryd.prog 14 := txt_of Tryd.func14 rfl (by kernel_rfl)
theorem tx15de : Txt Tryd.prog 15 := txt_of Tryd.func15 rfl (by kernel_rfl)
theorem tx16de : Txt Tryd.prog 16 := txt_of Tryd.func16 rfl (by kernel_rfl)
theorem tx18de : Txt Tryd.prog 18 := txt_of Tryd.func18 rfl (by kernel_rfl)

set_option maxHeartbeats 2000000 in
theorem awake_w (w : World) :
    Calls Tryd.prog 17 #[] w fun e w' => e = .returned (.bool true) ∧ Fr [] w w' := by
  refine calls_of (args := []) ([]) ([]) ([]) Tryd.func17 rfl rfl (okW0 _ _ _ _) ?_
  refine J_seq ?_
  refine J_region ?_
  refine L_v rfl rfl rfl (V_assign rfl rfl) ?_
  refine L_nil ?_
  change J _ _ _ _
  refine J_seq ?_
  refine J_region ?_
  refine L_call rfl rfl rfl rfl tx9de (fun w1 hw => (new_w 10 w1).mono ?_)
  rintro e w' (⟨h9, _⟩ | ⟨_, bd, H0, rfl, hG0, hU0⟩)
  · exact absurd (by decide) h9
  have hG0 : Good aw0 H0 := hG0
  have hU0 : Upd _ _ _ (dkM bd aw0 H0) [] := hU0
  refine ⟨_, _, _, rfl, OkW.upd (m1 := []) hw hU0, rfl, ?_⟩
  refine L_mem (dkM bd aw0 H0) rfl ?_
  refine L_v rfl rfl rfl (V_move rfl rfl) ?_
  refine L_v rfl rfl rfl (V_extract rfl rfl rfl) ?_
  refine L_v rfl rfl rfl (V_extract rfl rfl rfl) ?_
  refine L_v rfl rfl rfl (V_assign rfl rfl) ?_
  refine L_v rfl rfl rfl (V_assign rfl rfl) ?_
  refine L_nil ?_
  change J _ _ _ _
  refine J_seq ?_
  refine J_region ?_
  refine L_call rfl rfl rfl rfl tx9de (fun w1 hw => (new_w 0 w1).mono ?_)
  rintro e w' (⟨_, rfl, hfr⟩ | ⟨h9, _⟩)
  rotate_left
  · exact absurd h9 (by decide)
  refine ⟨_, _, _, rfl, hw.fr0 hfr, rfl, ?_⟩
  refine L_v rfl rfl rfl (V_move rfl rfl) ?_
  refine L_v rfl rfl rfl (V_extract rfl rfl rfl) ?_
  refine L_v rfl rfl rfl (V_extract rfl rfl rfl) ?_
  refine L_v rfl rfl rfl (V_assign rfl rfl) ?_
  refine L_v rfl rfl rfl (V_assign rfl rfl) ?_
  refine L_nil ?_
  change J _ _ _ _
  refine J_seq ?_
  refine J_seq ?_
  refine J_region ?_
  refine L_v rfl rfl rfl (V_move rfl rfl) ?_
  refine L_v rfl rfl rfl (V_eqP rfl rfl rfl Tryd.underlying24 rfl) ?_
  refine L_v rfl rfl rfl (V_move rfl rfl) ?_
  apply L_or 2 19 22
  · rfl
  · rfl
  · rfl
  · rfl
  · rfl
  · rfl
  · rfl
  · kernel_rfl
  · intro hb1 _ _ hk1
    refine L_wv rfl rfl rfl rfl rfl rfl (V_move rfl rfl) ?_
    refine L_wv rfl rfl rfl rfl rfl rfl (V_neq rfl rfl rfl rfl) ?_
    exact hk1 _ ⟨rfl, rfl, rfl, rfl, ext_cut 2 (by kernel_rfl) (by kernel_rfl)⟩
  refine L_v rfl rfl rfl (V_move rfl rfl) ?_
  apply L_or 2 23 26
  · rfl
  · rfl
  · rfl
  · rfl
  · rfl
  · rfl
  · rfl
  · kernel_rfl
  · intro hb2 _ _ hk2
    refine L_wv rfl rfl rfl rfl rfl rfl (V_move rfl rfl) ?_
    refine L_wv rfl rfl rfl rfl rfl rfl (V_neq rfl rfl rfl rfl) ?_
    exact hk2 _ ⟨rfl, rfl, rfl, rfl, ext_cut 2 (by kernel_rfl) (by kernel_rfl)⟩
  refine L_nil ?_
  change J _ _ _ _
  refine J_false rfl ?_
  refine J_skip ?_
  change J _ _ _ _
  refine J_seq ?_
  refine J_region ?_
  refine L_v rfl rfl rfl (V_move rfl rfl) ?_
  refine L_call rfl rfl rfl rfl tx10de (fun w1 hw => (create_w bd aw0 H0 sA w1 (hw.memAt (List.Sublist.refl _)) hG0 wf0 (by decide)).mono ?_)
  rintro e w' ⟨H1, rfl, hG1, hU1⟩
  have hG1 : Good aw1 H1 := hG1
  have hU1 : Upd _ _ _ (dkM bd aw1 H1) [] := hU1
  refine ⟨_, _, _, rfl, OkW.upd (m1 := []) hw hU1, rfl, ?_⟩
  refine L_mem (dkM bd aw1 H1) rfl ?_
  refine L_nil ?_
  change J _ _ _ _
  refine J_seq ?_
  refine J_region ?_
  refine L_v rfl rfl rfl (V_move rfl rfl) ?_
  refine L_buildSlice (e := 5) (vs := [(0, .int .u8 97), (1, .int .u8 98), (2, .int .u8 99)]) (l := (dg [97, 98, 99])) rfl rfl rfl rfl rfl (fun w => by kernel_rfl) (fun g30 => ?_)
  refine L_pk ((g30, row 5 (dg [97, 98, 99])) :: dkM bd aw1 H1) (Pk.front _ _) ?_
  refine L_cons rfl (S_markD 0 rfl rfl rfl rfl Tryd.underlying22 Tryd.underlying5 rfl ?_)
  refine L_call rfl rfl rfl rfl tx11de (fun w1 hw => (append_w bd aw1 H1 sA (some ⟨g30, 0, none⟩) 3 [97, 98, 99] w1 (hw.memAt (List.Sublist.cons _ (List.Sublist.refl _))) hG1 wf1 (by decide) (own_hB hw 3)).mono ?_)
  rintro e w' ⟨H2, rfl, hG2, hU2⟩
  have hG2 : Good aw2 H2 := hG2
  have hU2 : Upd _ _ _ (dkM bd aw2 H2) [] := hU2
  refine ⟨_, _, _, rfl, OkW.upd (m1 := [(g30, .cells ((dg [97, 98, 99])).toArray 5 (3, 4))]) hw hU2, rfl, ?_⟩
  refine L_pk (dkM bd aw2 H2) (Pk.of_sub (List.Sublist.cons _ (List.Sublist.refl _))) ?_
  refine L_nil ?_
  change J _ _ _ _
  refine J_seq ?_
  refine J_region ?_
  refine L_v rfl rfl rfl (V_move rfl rfl) ?_
  refine L_call rfl rfl rfl rfl tx12de (fun w1 hw => (sync_w bd aw2 H2 sA w1 (hw.memAt (List.Sublist.refl _)) hG2 wf2 (by decide)).mono ?_)
  rintro e w' ⟨H3, rfl, hG3, hU3⟩
  have hG3 : Good aw3 H3 := hG3
  have hU3 : Upd _ _ _ (dkM bd aw3 H3) [] := hU3
  refine ⟨_, _, _, rfl, OkW.upd (m1 := []) hw hU3, rfl, ?_⟩
  refine L_mem (dkM bd aw3 H3) rfl ?_
  refine L_nil ?_
  change J _ _ _ _
  refine J_seq ?_
  refine J_region ?_
  refine L_v rfl rfl rfl (V_move rfl rfl) ?_
  refine L_call rfl rfl rfl rfl tx13de (fun w1 hw => (syncNames_w bd aw3 H3  w1 (hw.memAt (List.Sublist.refl _)) hG3 wf3 (by decide)).mono ?_)
  rintro e w' ⟨H4, rfl, hG4, hU4⟩
  have hG4 : Good aw4 H4 := hG4
  have hU4 : Upd _ _ _ (dkM bd aw4 H4) [] := hU4
  refine ⟨_, _, _, rfl, OkW.upd (m1 := []) hw hU4, rfl, ?_⟩
  refine L_mem (dkM bd aw4 H4) rfl ?_
  refine L_nil ?_
  change J _ _ _ _
  refine J_seq ?_
  refine J_region ?_
  refine L_v rfl rfl rfl (V_move rfl rfl) ?_
  refine L_buildSlice (e := 5) (vs := [(0, .int .u8 100), (1, .int .u8 101), (2, .int .u8 102)]) (l := (dg [100, 101, 102])) rfl rfl rfl rfl rfl (fun w => by kernel_rfl) (fun g38 => ?_)
  refine L_pk ((g38, row 5 (dg [100, 101, 102])) :: dkM bd aw4 H4) (Pk.front _ _) ?_
  refine L_cons rfl (S_markD 0 rfl rfl rfl rfl Tryd.underlying22 Tryd.underlying5 rfl ?_)
  refine L_call rfl rfl rfl rfl tx11de (fun w1 hw => (append_w bd aw4 H4 sA (some ⟨g38, 0, none⟩) 3 [100, 101, 102] w1 (hw.memAt (List.Sublist.cons _ (List.Sublist.refl _))) hG4 wf4 (by decide) (own_hB hw 3)).mono ?_)
  rintro e w' ⟨H5, rfl, hG5, hU5⟩
  have hG5 : Good aw5 H5 := hG5
  have hU5 : Upd _ _ _ (dkM bd aw5 H5) [] := hU5
  refine ⟨_, _, _, rfl, OkW.upd (m1 := [(g38, .cells ((dg [100, 101, 102])).toArray 5 (3, 4))]) hw hU5, rfl, ?_⟩
  refine L_pk (dkM bd aw5 H5) (Pk.of_sub (List.Sublist.cons _ (List.Sublist.refl _))) ?_
  refine L_nil ?_
  change J _ _ _ _
  refine J_seq ?_
  refine J_region ?_
  refine L_v rfl rfl rfl (V_move rfl rfl) ?_
  refine L_buildSlice (e := 3) (vs := [(0, .int .i64 2)]) (l := intV [2]) rfl rfl rfl rfl rfl (fun w => by kernel_rfl) (fun g42 => ?_)
  refine L_pk ((g42, row 3 (intV [2])) :: dkM bd aw5 H5) (Pk.front _ _) ?_
  refine L_call rfl rfl rfl rfl tx15de (fun w1 hw => (crash_w bd aw5 H5 0 (some ⟨g42, 0, none⟩) 1 [2] 0 w1 (hw.memAt (List.Sublist.cons _ (List.Sublist.refl _))) hG5 wf5 (by decide) (own_hC hw 1)).mono ?_)
  rintro e w' ⟨H6, rfl, hG6, hU6⟩
  have hG6 : Good aw6 H6 := hG6
  have hU6 : Upd _ _ _ (dkM bd aw6 H6) [] := hU6
  refine ⟨_, _, _, rfl, OkW.upd (m1 := [(g42, row 3 (intV [2]))]) hw hU6, rfl, ?_⟩
  refine L_pk (dkM bd aw6 H6) (Pk.of_sub (List.Sublist.cons _ (List.Sublist.refl _))) ?_
  refine L_nil ?_
  change J _ _ _ _
  refine J_seq ?_
  refine J_region ?_
  refine L_v rfl rfl rfl (V_move rfl rfl) ?_
  refine L_call rfl rfl rfl rfl tx16de (fun w1 hw => (read_f bd aw6 H6 sA w1 (hw.memAt (List.Sublist.refl _)) hG6 wf6).mono ?_)
  rintro e w' ⟨a46, c46, hcp46, rfl, hfr, hn⟩
  refine ⟨_, _, _, rfl, hw.newN hfr hn, rfl, ?_⟩
  refine L_v rfl rfl rfl (V_move rfl rfl) ?_
  refine L_v rfl rfl rfl (V_extract rfl rfl rfl) ?_
  refine L_v rfl rfl rfl (V_extract rfl rfl rfl) ?_
  refine L_v rfl rfl rfl (V_assign rfl rfl) ?_
  refine L_v rfl rfl rfl (V_assign rfl rfl) ?_
  refine L_nil ?_
  change J _ _ _ _
  refine J_seq ?_
  refine J_region ?_
  refine L_v rfl rfl rfl (V_move rfl rfl) ?_
  refine L_call rfl rfl rfl rfl tx10de (fun w1 hw => (create_w bd aw6 H6 sB w1 (hw.memAt (List.Sublist.refl _)) hG6 wf6 (by decide)).mono ?_)
  rintro e w' ⟨H7, rfl, hG7, hU7⟩
  have hG7 : Good aw7 H7 := hG7
  have hU7 : Upd _ _ _ (dkM bd aw7 H7) [] := hU7
  refine ⟨_, _, _, rfl, OkW.upd (m1 := []) hw hU7, rfl, ?_⟩
  refine L_mem (dkM bd aw7 H7) rfl ?_
  refine L_nil ?_
  change J _ _ _ _
  refine J_seq ?_
  refine J_region ?_
  refine L_v rfl rfl rfl (V_move rfl rfl) ?_
  refine L_buildSlice (e := 5) (vs := [(0, .int .u8 120)]) (l := (dg [120])) rfl rfl rfl rfl rfl (fun w => by kernel_rfl) (fun g52 => ?_)
  refine L_pk ((g52, row 5 (dg [120])) :: dkM bd aw7 H7) (Pk.front _ _) ?_
  refine L_cons rfl (S_markD 0 rfl rfl rfl rfl Tryd.underlying22 Tryd.underlying5 rfl ?_)
  refine L_call rfl rfl rfl rfl tx11de (fun w1 hw => (append_w bd aw7 H7 sB (some ⟨g52, 0, none⟩) 1 [120] w1 (hw.memAt (List.Sublist.cons _ (List.Sublist.refl _))) hG7 wf7 (by decide) (own_hB hw 1)).mono ?_)
  rintro e w' ⟨H8, rfl, hG8, hU8⟩
  have hG8 : Good aw8 H8 := hG8
  have hU8 : Upd _ _ _ (dkM bd aw8 H8) [] := hU8
  refine ⟨_, _, _, rfl, OkW.upd (m1 := [(g52, .cells ((dg [120])).toArray 5 (1, 2))]) hw hU8, rfl, ?_⟩
  refine L_pk (dkM bd aw8 H8) (Pk.of_sub (List.Sublist.cons _ (List.Sublist.refl _))) ?_
  refine L_nil ?_
  change J _ _ _ _
  refine J_seq ?_
  refine J_region ?_
  refine L_v rfl rfl rfl (V_move rfl rfl) ?_
  refine L_call rfl rfl rfl rfl tx12de (fun w1 hw => (sync_w bd aw8 H8 sB w1 (hw.memAt (List.Sublist.refl _)) hG8 wf8 (by decide)).mono ?_)
  rintro e w' ⟨H9, rfl, hG9, hU9⟩
  have hG9 : Good aw9 H9 := hG9
  have hU9 : Upd _ _ _ (dkM bd aw9 H9) [] := hU9
  refine ⟨_, _, _, rfl, OkW.upd (m1 := []) hw hU9, rfl, ?_⟩
  refine L_mem (dkM bd aw9 H9) rfl ?_
  refine L_nil ?_
  change J _ _ _ _
  refine J_seq ?_
  refine J_region ?_
  refine L_v rfl rfl rfl (V_move rfl rfl) ?_
  refine L_call rfl rfl rfl rfl tx14de (fun w1 hw => (rename_w bd aw9 H9 sB sA w1 (hw.memAt (List.Sublist.refl _)) hG9 wf9 (by decide)).mono ?_)
  rintro e w' ⟨H10, rfl, hG10, hU10⟩
  have hG10 : Good aw10 H10 := hG10
  have hU10 : Upd _ _ _ (dkM bd aw10 H10) [] := hU10
  refine ⟨_, _, _, rfl, OkW.upd (m1 := []) hw hU10, rfl, ?_⟩
  refine L_mem (dkM bd aw10 H10) rfl ?_
  refine L_nil ?_
  change J _ _ _ _
  refine J_seq ?_
  refine J_region ?_
  refine L_v rfl rfl rfl (V_move rfl rfl) ?_
  refine L_call rfl rfl rfl rfl tx15de (fun w1 hw => (crash_w bd aw10 H10 2 none 0 [] 0 w1 (hw.memAt (List.Sublist.refl _)) hG10 wf10 (by decide) nil_hC).mono ?_)
  rintro e w' ⟨H11, rfl, hG11, hU11⟩
  have hG11 : Good aw11 H11 := hG11
  have hU11 : Upd _ _ _ (dkM bd aw11 H11) [] := hU11
  refine ⟨_, _, _, rfl, OkW.upd (m1 := []) hw hU11, rfl, ?_⟩
  refine L_mem (dkM bd aw11 H11) rfl ?_
  refine L_nil ?_
  change J _ _ _ _
  refine J_seq ?_
  refine J_region ?_
  refine L_v rfl rfl rfl (V_move rfl rfl) ?_
  refine L_call rfl rfl rfl rfl tx16de (fun w1 hw => (read_f bd aw11 H11 sA w1 (hw.memAt (List.Sublist.refl _)) hG11 wf11).mono ?_)
  rintro e w' ⟨a63, c63, hcp63, rfl, hfr, hn⟩
  refine ⟨_, _, _, rfl, hw.newN hfr hn, rfl, ?_⟩
  refine L_v rfl rfl rfl (V_move rfl rfl) ?_
  refine L_v rfl rfl rfl (V_extract rfl rfl rfl) ?_
  refine L_v rfl rfl rfl (V_extract rfl rfl rfl) ?_
  refine L_v rfl rfl rfl (V_assign rfl rfl) ?_
  refine L_v rfl rfl rfl (V_assign rfl rfl) ?_
  refine L_nil ?_
  change J _ _ _ _
  refine J_seq ?_
  refine J_region ?_
  refine L_v rfl rfl rfl (V_move rfl rfl) ?_
  refine L_v rfl rfl rfl (V_eql rfl rfl rfl rfl) ?_
  refine L_v rfl rfl rfl (V_move rfl rfl) ?_
  apply L_and 3 68 72
  · rfl
  · rfl
  · rfl
  · rfl
  · rfl
  · rfl
  · rfl
  · kernel_rfl
  · intro hb3 _ _ hk3
    refine L_wv rfl rfl rfl rfl rfl rfl (V_move rfl rfl) ?_
    refine L_wv rfl rfl rfl rfl rfl rfl (V_str rfl rfl Tryd.underlying22 Tryd.underlying5 Tryd.underlying9 (fun w hw => (hw.facts _ (List.mem_of_getElem? (i := 0) rfl)).1)) ?_
    refine L_wv rfl rfl rfl rfl rfl rfl (V_eqS rfl rfl rfl rfl) ?_
    exact hk3 _ ⟨rfl, rfl, rfl, rfl, ext_cut 3 (by kernel_rfl) (by kernel_rfl)⟩
  refine L_v rfl rfl rfl (V_move rfl rfl) ?_
  apply L_and 2 73 76
  · rfl
  · rfl
  · rfl
  · rfl
  · rfl
  · rfl
  · rfl
  · kernel_rfl
  · intro hb4 _ _ hk4
    refine L_wv rfl rfl rfl rfl rfl rfl (V_move rfl rfl) ?_
    refine L_wv rfl rfl rfl rfl rfl rfl (V_eql rfl rfl rfl rfl) ?_
    exact hk4 _ ⟨rfl, rfl, rfl, rfl, ext_cut 2 (by kernel_rfl) (by kernel_rfl)⟩
  refine L_v rfl rfl rfl (V_move rfl rfl) ?_
  apply L_and 3 77 81
  · rfl
  · rfl
  · rfl
  · rfl
  · rfl
  · rfl
  · rfl
  · kernel_rfl
  · intro hb5 _ _ hk5
    refine L_wv rfl rfl rfl rfl rfl rfl (V_move rfl rfl) ?_
    refine L_wv rfl rfl rfl rfl rfl rfl (V_str rfl rfl Tryd.underlying22 Tryd.underlying5 Tryd.underlying9 (fun w hw => (hw.facts _ (List.mem_of_getElem? (i := 1) rfl)).1)) ?_
    refine L_wv rfl rfl rfl rfl rfl rfl (V_eqS rfl rfl rfl rfl) ?_
    exact hk5 _ ⟨rfl, rfl, rfl, rfl, ext_cut 3 (by kernel_rfl) (by kernel_rfl)⟩
  refine L_v rfl rfl rfl (V_move rfl rfl) ?_
  apply L_and 4 82 87
  · rfl
  · rfl
  · rfl
  · rfl
  · rfl
  · rfl
  · rfl
  · kernel_rfl
  · intro hb6 _ _ hk6
    refine L_wv rfl rfl rfl rfl rfl rfl (V_move rfl rfl) ?_
    refine L_wS rfl rfl rfl rfl (S_call rfl rfl rfl tx18de (fun w1 hw => (names_f bd aw11 H11 w1 (hw.memAt (List.Sublist.refl _)) hG11 wf11 (by decide)).mono ?_))
    rintro e w' ⟨a84, c84, rfl, hfr, hn⟩
    refine ⟨_, _, _, rfl, hw.fr0 hfr, rfl, ?_⟩
    refine L_wv rfl rfl rfl rfl rfl rfl (V_len rfl rfl Tryd.underlying36 rfl) ?_
    refine L_wv rfl rfl rfl rfl rfl rfl (V_eql rfl rfl rfl rfl) ?_
    exact hk6 _ ⟨rfl, rfl, rfl, rfl, ext_cut 4 (by kernel_rfl) (by kernel_rfl)⟩
  refine L_v rfl rfl rfl (V_assign rfl rfl) ?_
  refine L_nil ?_
  change J _ _ _ _
  refine J_ret ?_
  change Kret _ _ _ Exit.ret _
  refine ret1 rfl rfl (RV_t rfl) ?_
  exact fun w' h => ⟨congrArg (fun b => Ending.returned (Value.bool b)) (by kernel_rfl), h.fr⟩

end Go.Proofs.YtcbpgnjlbbjieaaDoor
