/- A record is added to what is saved. -/
import Derived.Test.YtcdenfkbhefbbaaV9
set_option linter.unusedVariables false
set_option linter.unusedSimpArgs false
set_option maxRecDepth 100000
namespace Go.Proofs.Ytcdenfkbhefbbaa
open Go.Sx
/-- What is saved, with the slices of its councils. -/
structure SvS where
  t : Int
  v : Int
  sn : Sn
  a : Sp
  b : Sp
  es : List EnV
  gl : List Sg
def SvS.sv (S : SvS) : Sv := ⟨S.t, S.v, S.sn, S.es.map Prod.fst, S.gl⟩
abbrev keS (S : SvS) : List Value := (S.es.map enW).flatten
abbrev kgS (S : SvS) : List Value := (S.gl.map sgV).flatten
abbrev svR (S : SvS) (q1 q3 : OwnP) : List Value := svC S.t S.v S.sn S.a S.b (.slice (pA q1) S.es.length (pC q1)) (.slice (pA q3) S.gl.length (pC q3))
abbrev svM (p : Nat) (q1 q3 : OwnP) (S : SvS) : Mem := (p, row 30 (svR S q1 q3)) :: (pM 39 q1 (keS S) ++ pM 43 q3 (kgS S))
def adE (s : Sv) (r : Rec) : Int := if okR r = true ∧ MayR r then foldE s r else 110
def adX (S : SvS) (r : Rec) (n1 n2 : Sp) : SvS :=
  if adE S.sv r ≠ 0 then S
  else if r.1 = 1 then { S with t := r.2.1, v := r.2.2.1 }
  else if r.1 = 2 then { S with es := S.es ++ [(r.2.2.2.1, n1, n2)] }
  else if r.1 = 3 then { S with es := S.es.take (r.2.2.2.2.1 - S.sn.1 - 1).toNat }
  else if r.1 = 4 then { S with es := S.es.drop (cutE r.2.2.2.2.2.1 S.es), sn := r.2.2.2.2.2.1, a := n1, b := n2 }
  else { S with gl := S.gl ++ [r.2.2.2.2.2.2] }
def adG (S : SvS) (r : Rec) (n1 n2 : Sp) : List Fact :=
  if adE S.sv r ≠ 0 then [] else if r.1 = 2 then [allF (([(r.2.2.2.1, n1, n2)] : List EnV).map (enT 3))] else if r.1 = 4 then [clT 3 r.2.2.2.2.2.1.2.2.1 n1 n2] else []
theorem adX_sv (S : SvS) (r : Rec) (n1 n2 : Sp) : (adX S r n1 n2).sv = if adE S.sv r ≠ 0 then S.sv else foldS S.sv r := by
  unfold adX foldS
  split
  · rfl
  · split
    · rfl
    · split
      · show (⟨S.t, S.v, S.sn, (S.es ++ [(r.2.2.2.1, n1, n2)]).map Prod.fst, S.gl⟩ : Sv) = _
        rw [List.map_append]
        rfl
      · split
        · show (⟨S.t, S.v, S.sn, (S.es.take _).map Prod.fst, S.gl⟩ : Sv) = _
          rw [List.map_take]
          rfl
        · split
          · show (⟨S.t, S.v, _, (S.es.drop _).map Prod.fst, S.gl⟩ : Sv) = _
            rw [List.map_drop, ← cut_S (s := S.sv) (es := S.es) rfl]
            rfl
          · rfl
def AddP (b : Nat) (q1 q3 : OwnP) (S : SvS) (r : Rec) (w : World) : Ending → World → Prop := fun e w' => ∃ (n1 n2 : Sp) (q1' q3' : OwnP), e = .returned (.int .i64 (adE S.sv r)) ∧ PC 43 q1' (adX S r n1 n2).es.length (keS (adX S r n1 n2)) ∧ PC 97 q3' (adX S r n1 n2).gl.length (kgS (adX S r n1 n2)) ∧ Upd (svM b q1 q3 S) w w' (svM b q1' q3' (adX S r n1 n2)) (adG S r n1 n2)
section
variable {b : Nat} {q1 q3 : OwnP} {S : SvS} {r : Rec} {w w' : World}
theorem add_no {k : Int} (hk : adE S.sv r = k) (h0 : k ≠ 0) (hq1 : PC 43 q1 S.es.length (keS S)) (hq3 : PC 97 q3 S.gl.length (kgS S)) (hU : Upd (svM b q1 q3 S) w w' (svM b q1 q3 S) []) : AddP b q1 q3 S r w (.returned (.int .i64 k)) w' := by
  subst hk
  have h1 : ∀ n1 n2, adX S r n1 n2 = S := fun _ _ => if_pos h0
  have h2 : ∀ n1 n2, adG S r n1 n2 = [] := fun _ _ => if_pos h0
  exact ⟨spN, spN, q1, q3, rfl, by rw [h1]; exact hq1, by rw [h1]; exact hq3, by rw [h1, h2]; exact hU⟩
theorem add_yes (h0 : adE S.sv r = 0) (n1 n2 : Sp) (q1' q3' : OwnP) {S' : SvS} {gs : List Fact} (hS : adX S r n1 n2 = S') (hg : adG S r n1 n2 = gs) (hq1 : PC 43 q1' S'.es.length (keS S')) (hq3 : PC 97 q3' S'.gl.length (kgS S')) (hU : Upd (svM b q1 q3 S) w w' (svM b q1' q3' S') gs) : AddP b q1 q3 S r w (.returned (.int .i64 0)) w' := by
  subst hS hg
  exact ⟨n1, n2, q1', q3', by rw [h0], hq1, hq3, hU⟩
theorem adX_1 {n1 n2 : Sp} (h0 : adE S.sv r = 0) (h : r.1 = 1) : adX S r n1 n2 = { S with t := r.2.1, v := r.2.2.1 } := by unfold adX; rw [if_neg (by rw [h0]; decide), if_pos h]
theorem adX_2 {n1 n2 : Sp} (h0 : adE S.sv r = 0) (h : r.1 = 2) : adX S r n1 n2 = { S with es := S.es ++ [(r.2.2.2.1, n1, n2)] } := by unfold adX; rw [if_neg (by rw [h0]; decide), if_neg (by omega), if_pos h]
theorem adX_3 {n1 n2 : Sp} (h0 : adE S.sv r = 0) (h : r.1 = 3) : adX S r n1 n2 = { S with es := S.es.take (r.2.2.2.2.1 - S.sn.1 - 1).toNat } := by unfold adX; rw [if_neg (by rw [h0]; decide), if_neg (by omega), if_neg (by omega), if_pos h]
theorem adX_4 {n1 n2 : Sp} (h0 : adE S.sv r = 0) (h : r.1 = 4) : adX S r n1 n2 = { S with es := S.es.drop (cutE r.2.2.2.2.2.1 S.es), sn := r.2.2.2.2.2.1, a := n1, b := n2 } := by unfold adX; rw [if_neg (by rw [h0]; decide), if_neg (by omega), if_neg (by omega), if_neg (by omega), if_pos h]
theorem adX_5 {n1 n2 : Sp} (h0 : adE S.sv r = 0) (h : r.1 = 5) : adX S r n1 n2 = { S with gl := S.gl ++ [r.2.2.2.2.2.2] } := by unfold adX; rw [if_neg (by rw [h0]; decide), if_neg (by omega), if_neg (by omega), if_neg (by omega), if_neg (by omega)]
theorem adG_0 {n1 n2 : Sp} (h2 : r.1 ≠ 2) (h4 : r.1 ≠ 4) : adG S r n1 n2 = [] := by unfold adG; rw [if_neg h2, if_neg h4, ite_self]
theorem adG_2 {n1 n2 : Sp} (h0 : adE S.sv r = 0) (h : r.1 = 2) : adG S r n1 n2 = [allF (([(r.2.2.2.1, n1, n2)] : List EnV).map (enT 3))] := by unfold adG; rw [if_neg (by rw [h0]; decide), if_pos h]
theorem adG_4 {n1 n2 : Sp} (h0 : adE S.sv r = 0) (h : r.1 = 4) : adG S r n1 n2 = [clT 3 r.2.2.2.2.2.1.2.2.1 n1 n2] := by unfold adG; rw [if_neg (by rw [h0]; decide), if_neg (by omega), if_pos h]
theorem adE_bad (h : ¬ (okR r = true ∧ MayR r)) {s : Sv} : adE s r = 110 := if_neg h
theorem adE_1 {s : Sv} (h : okR r = true ∧ MayR r) (h1 : r.1 = 1) : adE s r = if r.2.1 < s.term ∨ far r.2.1 ∨ far r.2.2.1 then 110 else 0 := by unfold adE foldE; rw [if_pos h, if_pos h1]
theorem adE_2 {s : Sv} (h : okR r = true ∧ MayR r) (h1 : r.1 = 2) : adE s r = if r.2.2.2.1.1 ≠ lastS s + 1 ∨ far r.2.2.2.1.1 then 110 else if s.ents.length = 9000 then 2 else 0 := by unfold adE foldE; rw [if_pos h, if_neg (by omega), if_pos h1]
theorem adE_3 {s : Sv} (h : okR r = true ∧ MayR r) (h1 : r.1 = 3) : adE s r = if r.2.2.2.2.1 ≤ s.snap.1 ∨ lastS s < r.2.2.2.2.1 then 110 else 0 := by unfold adE foldE; rw [if_pos h, if_neg (by omega), if_neg (by omega), if_pos h1]
theorem adE_4 {s : Sv} (h : okR r = true ∧ MayR r) (h1 : r.1 = 4) : adE s r = if r.2.2.2.2.2.1.1 ≤ s.snap.1 ∨ far r.2.2.2.2.2.1.1 then 110 else 0 := by unfold adE foldE; rw [if_pos h, if_neg (by omega), if_neg (by omega), if_neg (by omega), if_pos h1]
theorem adE_5 {s : Sv} (h : okR r = true ∧ MayR r) (h1 : r.1 = 5) : adE s r = if 0 < s.sgs.length ∧ r.2.2.2.2.2.2.1.1 ≤ (s.sgs.getD (s.sgs.length - 1) sg0).1.1 then 110 else if s.sgs.length = 200 then 2 else 0 := by unfold adE foldE; rw [if_pos h, if_neg (by omega), if_neg (by omega), if_neg (by omega), if_neg (by omega)]
theorem svLast : lastS S.sv = S.sn.1 + (S.es.length : Int) := by
  show S.sn.1 + ((S.es.map Prod.fst).length : Int) = _
  rw [List.length_map]
theorem svEnts : S.sv.ents.length = S.es.length := List.length_map _
theorem may_kind (h : MayR r) : r.1 = 1 ∨ r.1 = 2 ∨ r.1 = 3 ∨ r.1 = 4 ∨ r.1 = 5 := by
  rw [may_r] at h
  rcases h with h | h | h | h | h
  · exact .inl h.1
  · exact .inr (.inl h.1)
  · exact .inr (.inr (.inl h.1))
  · exact .inr (.inr (.inr (.inl h.1)))
  · exact .inr (.inr (.inr (.inr h.1)))
end
theorem bsE (e : En) (a b : Sp) (w : World) : (Instr.buildSlice 27 1 [(0, .agg (enX e a b).toArray)].toArray).run Try.prog w = .ok (.slice (some ⟨w.heap.size, 0, none⟩) 1 1) (w.alloc (row 39 (enX e a b))) := by kernel_rfl
theorem bsG (x : Sg) (w : World) : (Instr.buildSlice 28 1 [(0, .agg (sgV x).toArray)].toArray).run Try.prog w = .ok (.slice (some ⟨w.heap.size, 0, none⟩) 1 1) (w.alloc (row 43 (sgV x))) := by kernel_rfl
theorem rows_take {α : Type} (f : α → List Value) {sz : Nat} (hf : ∀ x, (f x).length = sz) : ∀ (l : List α) (k : Nat), (l.map f).flatten.take (k * sz) = ((l.take k).map f).flatten
  | [], k => by simp
  | x :: l, 0 => by simp
  | x :: l, k + 1 => by
    rw [List.map_cons, List.flatten_cons, List.take_succ_cons, List.map_cons, List.flatten_cons, ← rows_take f hf l k, Nat.add_mul, Nat.one_mul, Nat.add_comm, ← hf x, List.take_length_add_append]
theorem rows_drop {α : Type} (f : α → List Value) {sz : Nat} (hf : ∀ x, (f x).length = sz) : ∀ (l : List α) (k : Nat), (l.map f).flatten.drop (k * sz) = ((l.drop k).map f).flatten
  | [], k => by simp
  | x :: l, 0 => by simp
  | x :: l, k + 1 => by
    rw [List.map_cons, List.flatten_cons, List.drop_succ_cons, ← rows_drop f hf l k, Nat.add_mul, Nat.one_mul, Nat.add_comm, ← hf x, List.drop_length_add_append]
theorem insF {cx : Cx} {m1 m : Mem} {w : World} {fs : List Fact} {q1 : OwnP} {es : List EnV} {r : Rec} {ra rb rc rd : Sp} (hw : OkW cx (m1 ++ m) fs w) (hm : ∀ p ∈ pM 39 q1 (es.map enW).flatten, p ∈ m1) (hq : PC 43 q1 es.length (es.map enW).flatten) (hf0 : fs[0]? = some (rcA (r, ra, rb, rc, rd))) :
    ∀ f ∈ [factC 43 (.slice (pA q1) es.length (pC q1)) es.length (es.map enW).flatten, clA r.2.2.2.2.2.1.2.2.1 rc rd], f.p w ∧ ∀ k, f.fp k → k < w.heap.size ∧ k ∉ m.map (·.1) := by
  intro f hf
  rcases List.mem_cons.1 hf with rfl | hf
  · exact hq.fm hw hm
  · obtain rfl := List.mem_singleton.1 hf
    have h9 := hw.facts _ (List.mem_of_getElem? hf0)
    exact ⟨h9.1.2, fun k hk => ⟨(h9.2 k (.inr hk)).1, fun hkm => (h9.2 k (.inr hk)).2 (by rw [List.map_append]; exact List.mem_append_right _ hkm)⟩⟩
theorem far2P (a b : Int) : 900000000 < maxI ([a, b].getD 0 0) ([a, b].drop 1) ↔ far a ∨ far b := by
  have h := far_2 a b
  unfold farL at h
  rw [decide_eq_true_eq] at h
  exact h
theorem sz3ad : (Try.prog.info? 3).map (·.size) = some 1 := by kernel_rfl
theorem sz26ad : (Try.prog.info? 26).map (·.size) = some 5 := by kernel_rfl
theorem sz27ad : (Try.prog.info? 27).map (·.size) = some 1 := by kernel_rfl
theorem sz28ad : (Try.prog.info? 28).map (·.size) = some 1 := by kernel_rfl
theorem sz31ad : (Try.prog.info? 31).map (·.size) = some 1 := by kernel_rfl
theorem sz39ad : (Try.prog.info? 39).map (·.size) = some 43 := by kernel_rfl
theorem sz41ad : (Try.prog.info? 41).map (·.size) = some 65 := by kernel_rfl
theorem sz43ad : (Try.prog.info? 43).map (·.size) = some 97 := by kernel_rfl
theorem sz45ad : (Try.prog.info? 45).map (·.size) = some 149 := by kernel_rfl
theorem tx18ad : Txt Try.prog 18 := txt_of Try.func18 rfl (by kernel_rfl)
theorem tx21ad : Txt Try.prog 21 := txt_of Try.func21 rfl (by kernel_rfl)
theorem tx44ad : Txt Try.prog 44 := txt_of Try.func44 rfl (by kernel_rfl)
theorem tx46ad : Txt Try.prog 46 := txt_of Try.func46 rfl (by kernel_rfl)
theorem tx47ad : Txt Try.prog 47 := txt_of Try.func47 rfl (by kernel_rfl)

set_option maxHeartbeats 8000000 in
theorem add_w (b1 : Nat) (q1 q3 : OwnP) (S : SvS) (r : Rec) (ra rb rc rd : Sp) (w : World) (hM : MemAt w (svM b1 q1 q3 S)) (hF : ∀ f ∈ [rcA (r, ra, rb, rc, rd)], f.p w ∧ ∀ k, f.fp k → k < w.heap.size ∧ k ∉ (svM b1 q1 q3 S).map (·.1)) (hq1 : PC 43 q1 S.es.length (keS S)) (hq3 : PC 97 q3 S.gl.length (kgS S)) (hS : S.es.length ≤ 9000 ∧ S.gl.length ≤ 200 ∧ 0 ≤ S.sn.1 ∧ S.sn.1 ≤ 900000000) (hB : SzC r.2.2.2.1.2.2.2.2 ∧ SzC r.2.2.2.2.2.1.2.2.1) :
    Calls Try.prog 23 #[.pointer (some ⟨b1, 0, none⟩), .agg (recX r ra rb rc rd).toArray] w fun e w' => AddP b1 q1 q3 S r w e w' := by
  have hle1 := hq1.le
  have hle3 := hq3.le
  obtain ⟨hS1, hS2, hS3, hS4⟩ := hS
  have hR : SzR r := by
    obtain ⟨⟨h2, h3⟩, h4, h5⟩ := hB
    exact ⟨⟨by omega, by omega⟩, by omega, by omega⟩
  refine calls_of (args := [.pointer (some ⟨b1, 0, none⟩), .agg (recX r ra rb rc rd).toArray]) ((svM b1 q1 q3 S).map (·.1)) (svM b1 q1 q3 S) ([rcA (r, ra, rb, rc, rd)]) Try.func23 rfl rfl (okMem hM hF) ?_
  refine J_seq ?_
  refine J_region ?_
  refine L_box rfl rfl rfl rfl rfl (fun b0 => ?_)
  refine L_pk ((b0, row 45 (recX r ra rb rc rd)) :: svM b1 q1 q3 S) (Pk.front _ _) ?_
  refine L_v rfl rfl rfl (V_assign rfl rfl) ?_
  refine L_nil ?_
  change J _ _ _ _
  refine J_seq ?_
  refine J_seq ?_
  refine J_region ?_
  refine L_v rfl rfl rfl (V_loadT 0 (vs := recX r ra rb rc rd) rfl rfl rfl Try.underlying45 rfl sz45ad (by kernel_rfl) (by kernel_rfl)) ?_
  refine L_call rfl rfl rfl rfl tx21ad (fun w1 hw => (put_rec (r, ra, rb, rc, rd) w1 (hw.fa 0 rfl)).mono ?_)
  rintro e w' ⟨v9, rfl, hfr9⟩
  refine ⟨_, _, _, rfl, hw.fr0 hfr9, rfl, ?_⟩
  refine L_v rfl rfl rfl (V_move rfl rfl) ?_
  refine L_v rfl rfl rfl (V_extract rfl rfl rfl) ?_
  refine L_v rfl rfl rfl (V_extract rfl rfl rfl) ?_
  refine L_v rfl rfl rfl (V_assign rfl rfl) ?_
  refine L_v rfl rfl rfl (V_assign rfl rfl) ?_
  refine L_nil ?_
  change J _ _ _ _
  refine J_seq ?_
  refine J_region ?_
  refine L_v rfl rfl rfl (V_move rfl rfl) ?_
  refine L_v rfl rfl rfl (V_neq rfl rfl rfl (by first | exact decide_eq_true (by omega) | exact decide_eq_false (by omega) | rfl)) ?_
  refine L_v rfl rfl rfl (V_move rfl rfl) ?_
  apply L_or 3 16 20
  · rfl
  · rfl
  · rfl
  · rfl
  · rfl
  · rfl
  · rfl
  · kernel_rfl
  · intro hb1 _ _ hk1
    refine L_wv rfl rfl rfl rfl rfl rfl (V_loadT 0 (vs := recX r ra rb rc rd) rfl rfl rfl Try.underlying45 rfl sz45ad (by kernel_rfl) (by kernel_rfl)) ?_
    refine L_wcallV rfl rfl rfl rfl rfl rfl rfl rfl rfl tx46ad (fun w1 hw => may_w r ra rb rc rd w1 hR) ?_
    refine L_wv rfl rfl rfl rfl rfl rfl (V_not rfl rfl rfl) ?_
    exact hk1 _ ⟨rfl, rfl, rfl, rfl, ext_cut 3 (by kernel_rfl) (by kernel_rfl)⟩
  refine L_nil ?_
  change J _ _ _ _
  refine J_cond rfl (fun h2 => ?_) (fun h2 => ?_)
  ·
    first | (have h2 := of_decide_eq_true h2) | (have h2 := of_decide_eq_false h2) | skip
    refine J_seq ?_
    refine J_region ?_
    refine L_v rfl rfl rfl (V_assign rfl rfl) ?_
    refine L_nil ?_
    change J _ _ _ _
    refine J_ret ?_
    change Kret _ _ _ Exit.ret _
    refine ret1 rfl rfl (RV_t rfl) ?_
    have hx : adE S.sv r = 110 := adE_bad (fun hh => by rw [← putE_ok] at hh; simp [hh.1, hh.2] at h2)
    exact fun w' h => add_no hx (by decide) hq1 hq3 (Upd.of h rfl (Pk.of_sub (by first | exact List.Sublist.cons _ (List.Sublist.refl _) | exact List.Sublist.cons _ (List.sublist_append_left _ _))) (fun f hf => by cases hf) (fun f hf => by cases hf))
  ·
    first | (have h2 := of_decide_eq_true h2) | (have h2 := of_decide_eq_false h2) | skip
    have hok : okR r = true ∧ MayR r := by
      rw [Bool.or_eq_false_iff, decide_eq_false_iff_not, Classical.not_not, Bool.not_eq_false', decide_eq_true_eq, putE_ok] at h2
      exact h2
    refine J_skip ?_
    change J _ _ _ _
    refine J_seq ?_
    refine J_regionQ rfl (by kernel_rfl) ?_
    refine LQ_v rfl rfl rfl (V_move rfl rfl) ?_
    refine LQ_v rfl rfl rfl (V_nilCheck rfl rfl) ?_
    refine LQ_v rfl rfl rfl (V_fieldAddr rfl rfl Try.underlying30 rfl sz26ad rfl) ?_
    refine LQ_v rfl rfl rfl (V_fieldAddr rfl rfl Try.underlying26 rfl sz3ad rfl) ?_
    refine LQ_v rfl rfl rfl (V_load1 1 rfl rfl rfl Try.underlying3 rfl (by rfl)) ?_
    refine LQ_v rfl rfl rfl (V_move rfl rfl) ?_
    refine LQ_v rfl rfl rfl (V_nilCheck rfl rfl) ?_
    refine LQ_v rfl rfl rfl (V_fieldAddr rfl rfl Try.underlying30 rfl sz27ad rfl) ?_
    refine LQ_v rfl rfl rfl (V_load1 1 rfl rfl rfl Try.underlying27 rfl (by rfl)) ?_
    refine LQ_v rfl rfl rfl (V_len rfl rfl Try.underlying27 rfl) ?_
    refine LQ_v rfl rfl rfl (V_add rfl rfl rfl (by first | exact Go.IntWalk.i64_in _ (by omega) | rfl)) ?_
    refine LQ_v rfl rfl rfl (V_assign rfl rfl) ?_
    refine LQ_nil ?_
    change J _ _ _ _
    refine J_seq ?_
    refine J_seq ?_
    refine J_region ?_
    refine L_v rfl rfl rfl (V_fieldAddr rfl rfl Try.underlying45 rfl sz31ad rfl) ?_
    refine L_v rfl rfl rfl (V_load1 0 rfl rfl rfl Try.underlying31 rfl (by rfl)) ?_
    refine L_nil ?_
    change J _ _ _ _
    refine J_block ?_
    refine J_seq ?_
    refine J_region ?_
    refine L_v rfl rfl rfl (V_eql rfl rfl rfl (by first | exact decide_eq_true (by omega) | exact decide_eq_false (by omega) | rfl)) ?_
    refine L_v rfl rfl rfl (V_assign rfl rfl) ?_
    refine L_nil ?_
    change J _ _ _ _
    refine J_cond rfl (fun h3 => ?_) (fun h3 => ?_)
    ·
      first | (have h3 := of_decide_eq_true h3) | (have h3 := of_decide_eq_false h3) | skip
      refine J_seq ?_
      refine J_seq ?_
      refine J_regionO (.pure 0 (.pure 1 (.pure 2 (.pure 3 (.pure 4 (.pure 5 (.pure 6 (.pure 7 (.pure 8 (.pure 9 (.pure 10 (.pure 11 (.one 12 (.one 13 (.pure 14 (.nil)))))))))))))))) ([(b0, row 45 (recX r ra rb rc rd)), (b1, row 30 (svC S.t S.v S.sn S.a S.b (.slice (pA q1) S.es.length (pC q1)) (.slice (pA q3) S.gl.length (pC q3))))]) _ (Pk.of_sub (List.Sublist.cons_cons _ (List.Sublist.cons_cons _ (List.nil_sublist _)))) (fun f hf => hf) rfl rfl (by kernel_rfl) ?_
      refine LO_v rfl rfl rfl rfl (V_fieldAddr rfl rfl Try.underlying45 rfl sz3ad rfl) ?_
      refine LO_v rfl rfl rfl rfl (V_load1 0 rfl rfl rfl Try.underlying3 rfl (by rfl)) ?_
      refine LO_v rfl rfl rfl rfl (V_move rfl rfl) ?_
      refine LO_v rfl rfl rfl rfl (V_nilCheck rfl rfl) ?_
      refine LO_v rfl rfl rfl rfl (V_fieldAddr rfl rfl Try.underlying30 rfl sz3ad rfl) ?_
      refine LO_v rfl rfl rfl rfl (V_load1 1 rfl rfl rfl Try.underlying3 rfl (by rfl)) ?_
      refine LO_v rfl rfl rfl rfl (V_lss rfl rfl rfl (by first | exact decide_eq_true (by omega) | exact decide_eq_false (by omega) | rfl)) ?_
      refine LO_v rfl rfl rfl rfl (V_move rfl rfl) ?_
      refine LO_split 43 rfl (fun h4 => ?_) (fun h4 => ?_)
      ·
        first | (have h4 := of_decide_eq_true h4) | (have h4 := of_decide_eq_false h4) | skip
        refine LO_skip rfl rfl rfl rfl rfl rfl rfl rfl ?_
        refine LO_skip rfl rfl rfl rfl rfl rfl rfl rfl ?_
        refine LO_skip rfl rfl rfl rfl rfl rfl rfl rfl ?_
        refine LO_skip rfl rfl rfl rfl rfl rfl rfl rfl ?_
        refine LO_skipL rfl rfl rfl rfl rfl rfl rfl rfl (Pk.of_sub (List.Sublist.cons_cons _ (List.Sublist.cons_cons _ (List.nil_sublist _)))) (fun f hf => hf) ?_
        refine LO_skipL rfl rfl rfl rfl rfl rfl rfl rfl (Pk.of_sub (List.Sublist.cons_cons _ (List.Sublist.cons_cons _ (List.nil_sublist _)))) (fun f hf => hf) ?_
        first | refine LO_v rfl rfl rfl rfl (V_pickT rfl rfl rfl) ?_ | refine LO_v rfl rfl rfl rfl (V_pickF rfl rfl rfl) ?_
        refine LO_nil ?_
        change J _ _ _ _
        refine J_true rfl ?_
        refine J_seq ?_
        refine J_region ?_
        refine L_v rfl rfl rfl (V_assign rfl rfl) ?_
        refine L_nil ?_
        change J _ _ _ _
        refine J_ret ?_
        change Kret _ _ _ Exit.ret _
        refine ret1 rfl rfl (RV_t rfl) ?_
        have hx : adE S.sv r = 110 := by rw [adE_1 hok h3, if_pos (.inl h4)]
        exact fun w' h => add_no hx (by decide) hq1 hq3 (Upd.of h rfl (Pk.of_sub (by first | exact List.Sublist.cons _ (List.Sublist.refl _) | exact List.Sublist.cons _ (List.sublist_append_left _ _))) (fun f hf => by cases hf) (fun f hf => by cases hf))
      ·
        first | (have h4 := of_decide_eq_true h4) | (have h4 := of_decide_eq_false h4) | skip
        refine LO_wv rfl rfl rfl rfl rfl rfl rfl (V_fieldAddr rfl rfl Try.underlying45 rfl sz3ad rfl) ?_
        refine LO_wv rfl rfl rfl rfl rfl rfl rfl (V_load1 0 rfl rfl rfl Try.underlying3 rfl (by rfl)) ?_
        refine LO_wv rfl rfl rfl rfl rfl rfl rfl (V_fieldAddr rfl rfl Try.underlying45 rfl sz3ad rfl) ?_
        refine LO_wv rfl rfl rfl rfl rfl rfl rfl (V_load1 0 rfl rfl rfl Try.underlying3 rfl (by rfl)) ?_
        refine LO_sw rfl rfl rfl rfl rfl rfl (S_buildSlice (vs := [(0, .int .i64 (r.2.1)), (1, .int .i64 (r.2.2.1))]) (l := ints [r.2.1, r.2.2.1]) rfl rfl rfl rfl (bs2 _ _) (fun b2 => ⟨(Pk.of_sub (List.Sublist.cons_cons _ (List.Sublist.cons_cons _ (List.nil_sublist _)))), (fun f hf => hf), ?_⟩))
        refine LO_wcallV rfl rfl rfl rfl rfl rfl rfl rfl rfl rfl rfl tx18ad (fun w1 hw => far_w (some ⟨b2, 0, none⟩, 2) [r.2.1, r.2.2.1] w1 (FA.slc (SlC.in (ks := ints [r.2.1, r.2.2.1]) (r := []) (fz := (0, 0)) hw (List.mem_append_right _ (List.mem_singleton.2 rfl)) rfl 2)) (Nat.succ_le_succ (Nat.zero_le _)) (by show 2 ≤ 100; decide)) (Pk.app (Pk.of_sub (List.Sublist.cons_cons _ (List.Sublist.cons_cons _ (List.nil_sublist _)))) _) (fun f hf => hf) ?_
        first | refine LO_v rfl rfl rfl rfl (V_pickT rfl rfl rfl) ?_ | refine LO_v rfl rfl rfl rfl (V_pickF rfl rfl rfl) ?_
        refine LO_nil ?_
        change J _ _ _ _
        refine J_cond rfl (fun h5 => ?_) (fun h5 => ?_)
        ·
          first | (have h5 := of_decide_eq_true h5) | (have h5 := of_decide_eq_false h5) | skip
          refine J_seq ?_
          refine J_region ?_
          refine L_v rfl rfl rfl (V_assign rfl rfl) ?_
          refine L_nil ?_
          change J _ _ _ _
          refine J_ret ?_
          change Kret _ _ _ Exit.ret _
          refine ret1 rfl rfl (RV_t rfl) ?_
          have hx : adE S.sv r = 110 := by rw [adE_1 hok h3, if_pos (.inr ((far2P _ _).1 h5))]
          exact fun w' h => add_no hx (by decide) hq1 hq3 (Upd.of h rfl (Pk.of_sub (by first | exact List.Sublist.cons _ (List.Sublist.refl _) | exact List.Sublist.cons _ (List.sublist_append_left _ _))) (fun f hf => by cases hf) (fun f hf => by cases hf))
        ·
          first | (have h5 := of_decide_eq_true h5) | (have h5 := of_decide_eq_false h5) | skip
          have hx : adE S.sv r = 0 := by rw [adE_1 hok h3, if_neg (fun hh => hh.elim h4 (fun h => h5 ((far2P _ _).2 h)))]
          refine J_skip ?_
          change J _ _ _ _
          refine J_pk ((b0, row 45 (recX r ra rb rc rd)) :: svM b1 q1 q3 S) (Pk.of_sub (List.sublist_append_left _ _)) ?_
          refine J_regionO (.pure 0 (.pure 1 (.pure 2 (.pure 3 (.pure 4 (.pure 5 (.pure 6 (.pure 7 (.one 8 (.pure 9 (.pure 10 (.one 11 (.nil))))))))))))) ([(b0, row 45 (recX r ra rb rc rd))]) _ (Pk.of_sub (List.Sublist.cons_cons _ (List.nil_sublist _))) (fun f hf => hf) rfl rfl (by kernel_rfl) ?_
          refine LO_v rfl rfl rfl rfl (V_move rfl rfl) ?_
          refine LO_v rfl rfl rfl rfl (V_move rfl rfl) ?_
          refine LO_v rfl rfl rfl rfl (V_fieldAddr rfl rfl Try.underlying45 rfl sz3ad rfl) ?_
          refine LO_v rfl rfl rfl rfl (V_load1 0 rfl rfl rfl Try.underlying3 rfl (by rfl)) ?_
          refine LO_v rfl rfl rfl rfl (V_fieldAddr rfl rfl Try.underlying45 rfl sz3ad rfl) ?_
          refine LO_v rfl rfl rfl rfl (V_load1 0 rfl rfl rfl Try.underlying3 rfl (by rfl)) ?_
          refine LO_v rfl rfl rfl rfl (V_nilCheck rfl rfl) ?_
          refine LO_v rfl rfl rfl rfl (V_fieldAddr rfl rfl Try.underlying30 rfl sz3ad rfl) ?_
          refine LO_s rfl rfl rfl (S_store1 1 (l' := svC r.2.1 S.v S.sn S.a S.b (.slice (pA q1) S.es.length (pC q1)) (.slice (pA q3) S.gl.length (pC q3))) rfl rfl rfl rfl rfl rfl sz3ad (Nat.le_of_ble_eq_true (by kernel_rfl)) (by kernel_rfl) ⟨(Pk.of_sub (List.Sublist.cons_cons _ (List.nil_sublist _))), (fun f hf => hf), ?_⟩)
          refine LO_v rfl rfl rfl rfl (V_nilCheck rfl rfl) ?_
          refine LO_v rfl rfl rfl rfl (V_fieldAddr rfl rfl Try.underlying30 rfl sz3ad rfl) ?_
          refine LO_s rfl rfl rfl (S_store1 1 (l' := svC r.2.1 r.2.2.1 S.sn S.a S.b (.slice (pA q1) S.es.length (pC q1)) (.slice (pA q3) S.gl.length (pC q3))) rfl rfl rfl rfl rfl rfl sz3ad (Nat.le_of_ble_eq_true (by kernel_rfl)) (by kernel_rfl) ⟨(Pk.of_sub (List.Sublist.cons_cons _ (List.nil_sublist _))), (fun f hf => hf), ?_⟩)
          refine LO_nil ?_
          change J _ _ _ _
          refine J_seq ?_
          refine J_region ?_
          refine L_v rfl rfl rfl (V_assign rfl rfl) ?_
          refine L_nil ?_
          change J _ _ _ _
          refine J_ret ?_
          change Kret _ _ _ Exit.ret _
          refine ret1 rfl rfl (RV_t rfl) ?_
          exact fun w' h => add_yes hx spN spN q1 q3 (adX_1 hx h3) (adG_0 (by omega) (by omega)) hq1 hq3 (Upd.of h rfl (Pk.of_sub (List.Sublist.cons _ (List.Sublist.refl _))) (fun f hf => by cases hf) (fun f hf => by cases hf))
    ·
      first | (have h3 := of_decide_eq_true h3) | (have h3 := of_decide_eq_false h3) | skip
      refine J_seq ?_
      refine J_region ?_
      refine L_v rfl rfl rfl (V_eql rfl rfl rfl (by first | exact decide_eq_true (by omega) | exact decide_eq_false (by omega) | rfl)) ?_
      refine L_v rfl rfl rfl (V_assign rfl rfl) ?_
      refine L_nil ?_
      change J _ _ _ _
      refine J_cond rfl (fun h4 => ?_) (fun h4 => ?_)
      ·
        first | (have h4 := of_decide_eq_true h4) | (have h4 := of_decide_eq_false h4) | skip
        refine J_seq ?_
        refine J_block ?_
        refine J_seq ?_
        refine J_region ?_
        refine L_v rfl rfl rfl (V_fieldAddr rfl rfl Try.underlying45 rfl sz39ad rfl) ?_
        refine L_v rfl rfl rfl (V_fieldAddr rfl rfl Try.underlying39 rfl sz3ad rfl) ?_
        refine L_v rfl rfl rfl (V_load1 0 rfl rfl rfl Try.underlying3 rfl (by rfl)) ?_
        refine L_v rfl rfl rfl (V_move rfl rfl) ?_
        refine L_v rfl rfl rfl (V_add rfl rfl rfl (by first | exact Go.IntWalk.i64_in _ (by omega) | rfl)) ?_
        refine L_v rfl rfl rfl (V_neq rfl rfl rfl (by first | exact decide_eq_true (by omega) | exact decide_eq_false (by omega) | rfl)) ?_
        refine L_v rfl rfl rfl (V_move rfl rfl) ?_
        refine L_split 70 rfl (fun h5 => ?_) (fun h5 => ?_)
        ·
          first | (have h5 := of_decide_eq_true h5) | (have h5 := of_decide_eq_false h5) | skip
          refine L_skip rfl rfl rfl rfl rfl rfl rfl ?_
          refine L_skip rfl rfl rfl rfl rfl rfl rfl ?_
          refine L_skip rfl rfl rfl rfl rfl rfl rfl ?_
          refine L_skip rfl rfl rfl rfl rfl rfl rfl ?_
          refine L_skip rfl rfl rfl rfl rfl rfl rfl ?_
          first | refine L_v rfl rfl rfl (V_pickT rfl rfl rfl) ?_ | refine L_v rfl rfl rfl (V_pickF rfl rfl rfl) ?_
          refine L_v rfl rfl rfl (V_assign rfl rfl) ?_
          refine L_nil ?_
          change J _ _ _ _
          refine J_true rfl ?_
          refine J_seq ?_
          refine J_region ?_
          refine L_v rfl rfl rfl (V_assign rfl rfl) ?_
          refine L_nil ?_
          change J _ _ _ _
          refine J_ret ?_
          change Kret _ _ _ Exit.ret _
          refine ret1 rfl rfl (RV_t rfl) ?_
          have hx : adE S.sv r = 110 := by rw [adE_2 hok h4, if_pos (.inl (by rw [svLast]; exact h5))]
          exact fun w' h => add_no hx (by decide) hq1 hq3 (Upd.of h rfl (Pk.of_sub (by first | exact List.Sublist.cons _ (List.Sublist.refl _) | exact List.Sublist.cons _ (List.sublist_append_left _ _))) (fun f hf => by cases hf) (fun f hf => by cases hf))
        ·
          first | (have h5 := of_decide_eq_true h5) | (have h5 := of_decide_eq_false h5) | skip
          have h5 : r.2.2.2.1.1 = lastS S.sv + 1 := by rw [svLast]; exact Classical.not_not.1 h5
          refine L_wv rfl rfl rfl rfl rfl rfl (V_fieldAddr rfl rfl Try.underlying45 rfl sz39ad rfl) ?_
          refine L_wv rfl rfl rfl rfl rfl rfl (V_fieldAddr rfl rfl Try.underlying39 rfl sz3ad rfl) ?_
          refine L_wv rfl rfl rfl rfl rfl rfl (V_load1 0 rfl rfl rfl Try.underlying3 rfl (by rfl)) ?_
          refine L_wS rfl rfl rfl rfl (S_buildSlice (vs := [(0, .int .i64 (r.2.2.2.1.1))]) (l := ints [r.2.2.2.1.1]) rfl rfl rfl rfl (bs1 _) (fun b2 => ?_))
          refine L_wcallV rfl rfl rfl rfl rfl rfl rfl rfl rfl tx18ad (fun w1 hw => far_w (some ⟨b2, 0, none⟩, 1) [r.2.2.2.1.1] w1 (FA.slc (SlC.in (ks := ints [r.2.2.2.1.1]) (r := []) (fz := (0, 0)) hw (List.mem_append_right _ (List.mem_singleton.2 rfl)) rfl 1)) (Nat.succ_le_succ (Nat.zero_le _)) (by show 1 ≤ 100; decide)) ?_
          first | refine L_v rfl rfl rfl (V_pickT rfl rfl rfl) ?_ | refine L_v rfl rfl rfl (V_pickF rfl rfl rfl) ?_
          refine L_v rfl rfl rfl (V_assign rfl rfl) ?_
          refine L_nil ?_
          change J _ _ _ _
          refine J_cond rfl (fun h6 => ?_) (fun h6 => ?_)
          ·
            first | (have h6 := of_decide_eq_true h6) | (have h6 := of_decide_eq_false h6) | skip
            refine J_seq ?_
            refine J_region ?_
            refine L_v rfl rfl rfl (V_assign rfl rfl) ?_
            refine L_nil ?_
            change J _ _ _ _
            refine J_ret ?_
            change Kret _ _ _ Exit.ret _
            refine ret1 rfl rfl (RV_t rfl) ?_
            have hx : adE S.sv r = 110 := by rw [adE_2 hok h4, if_pos (.inr h6)]
            exact fun w' h => add_no hx (by decide) hq1 hq3 (Upd.of h rfl (Pk.of_sub (by first | exact List.Sublist.cons _ (List.Sublist.refl _) | exact List.Sublist.cons _ (List.sublist_append_left _ _))) (fun f hf => by cases hf) (fun f hf => by cases hf))
          ·
            first | (have h6 := of_decide_eq_true h6) | (have h6 := of_decide_eq_false h6) | skip
            refine J_seq ?_
            refine J_region ?_
            refine L_v rfl rfl rfl (V_move rfl rfl) ?_
            refine L_v rfl rfl rfl (V_nilCheck rfl rfl) ?_
            refine L_v rfl rfl rfl (V_fieldAddr rfl rfl Try.underlying30 rfl sz27ad rfl) ?_
            refine L_v rfl rfl rfl (V_load1 1 rfl rfl rfl Try.underlying27 rfl (by rfl)) ?_
            refine L_v rfl rfl rfl (V_len rfl rfl Try.underlying27 rfl) ?_
            refine L_v rfl rfl rfl (V_eql rfl rfl rfl (by first | exact decide_eq_true (by omega) | exact decide_eq_false (by omega) | rfl)) ?_
            refine L_v rfl rfl rfl (V_assign rfl rfl) ?_
            refine L_nil ?_
            change J _ _ _ _
            refine J_cond rfl (fun h7 => ?_) (fun h7 => ?_)
            ·
              first | (have h7 := of_decide_eq_true h7) | (have h7 := of_decide_eq_false h7) | skip
              refine J_seq ?_
              refine J_region ?_
              refine L_v rfl rfl rfl (V_assign rfl rfl) ?_
              refine L_nil ?_
              change J _ _ _ _
              refine J_ret ?_
              change Kret _ _ _ Exit.ret _
              refine ret1 rfl rfl (RV_t rfl) ?_
              have hx : adE S.sv r = 2 := by rw [adE_2 hok h4, if_neg (fun hh => hh.elim (fun h => h h5) h6), if_pos (by rw [svEnts]; omega)]
              exact fun w' h => add_no hx (by decide) hq1 hq3 (Upd.of h rfl (Pk.of_sub (by first | exact List.Sublist.cons _ (List.Sublist.refl _) | exact List.Sublist.cons _ (List.sublist_append_left _ _))) (fun f hf => by cases hf) (fun f hf => by cases hf))
            ·
              first | (have h7 := of_decide_eq_true h7) | (have h7 := of_decide_eq_false h7) | skip
              have hx : adE S.sv r = 0 := by rw [adE_2 hok h4, if_neg (fun hh => hh.elim (fun h => h h5) h6), if_neg (by rw [svEnts]; omega)]
              refine J_skip ?_
              change J _ _ _ _
              refine J_pk ((b0, row 45 (recX r ra rb rc rd)) :: svM b1 q1 q3 S) (Pk.of_sub (List.sublist_append_left _ _)) ?_
              refine J_regionO (.pure 0 (.pure 1 (.pure 2 (.pure 3 (.pure 5 (.pure 6 (.two 4 (.one 7 (.one 8 (.one 9 (.pure 10 (.pure 11 (.one 12 (.nil))))))) 7 (.two 4 (.one 8 (.one 9 (.pure 10 (.pure 11 (.one 12 (.nil)))))) 8 (.one 4 (.one 9 (.pure 10 (.pure 11 (.one 12 (.nil)))))))))))))) ([(b0, row 45 (recX r ra rb rc rd))]) _ (Pk.of_sub (List.Sublist.cons_cons _ (List.nil_sublist _))) (fun f hf => hf) rfl rfl (by kernel_rfl) ?_
              refine LO_v rfl rfl rfl rfl (V_move rfl rfl) ?_
              refine LO_v rfl rfl rfl rfl (V_move rfl rfl) ?_
              refine LO_v rfl rfl rfl rfl (V_nilCheck rfl rfl) ?_
              refine LO_v rfl rfl rfl rfl (V_fieldAddr rfl rfl Try.underlying30 rfl sz27ad rfl) ?_
              refine LO_v rfl rfl rfl rfl (V_fieldAddr rfl rfl Try.underlying45 rfl sz39ad rfl) ?_
              refine LO_v rfl rfl rfl rfl (V_loadT 0 (vs := enX r.2.2.2.1 ra rb) rfl rfl rfl Try.underlying39 rfl sz39ad (by kernel_rfl) (by kernel_rfl)) ?_
              refine LO_both ?_ ?_
              ·
                refine LO_s rfl rfl rfl (S_v rfl rfl (V_load1 1 rfl rfl rfl Try.underlying27 rfl (by rfl)) ⟨(Pk.of_sub (List.Sublist.cons_cons _ (List.nil_sublist _))), (fun f hf => hf), ?_⟩)
                refine LO_s rfl rfl rfl (S_buildSlice (vs := [(0, .agg (enX r.2.2.2.1 ra rb).toArray)]) (l := enX r.2.2.2.1 ra rb) rfl rfl rfl rfl (bsE _ _ _) (fun b2 => ⟨(Pk.of_sub (List.Sublist.cons_cons _ (List.nil_sublist _))), (fun f hf => hf), ?_⟩))
                refine LO_s rfl rfl rfl (S_call rfl rfl rfl tx44ad (fun w1 hw => (ownEntries_w [(r.2.2.2.1, ra, rb)] (some ⟨b2, 0, none⟩, 1) w1 (.and (.slc (SlC.in (ks := (([(r.2.2.2.1, ra, rb)] : List EnV).map enW).flatten) (r := []) (fz := (0, 0)) hw (List.mem_append_right _ (List.mem_singleton.2 rfl)) rfl 1)) (.all (.cons (hw.fa 0 rfl).l .nil))) (fun p hp => by obtain rfl := List.mem_singleton.1 hp; exact hB.1) (by show 1 ≤ _; decide)).mono ?_))
                rintro e w' ⟨q9, gs, rfl, hgs, hfr, hq9, hn9⟩
                obtain ⟨⟨e9, n1, n2⟩, rfl⟩ := List.length_eq_one_iff.1 (by have h9 := congrArg List.length hgs; rw [List.length_map] at h9; exact h9)
                obtain rfl : e9 = r.2.2.2.1 := by injection hgs
                have n9 : ∀ k, (clT 3 r.2.2.2.1.2.2.2.2 n1 n2).fp k → w.heap.size ≤ k := fun k hk => Nat.le_trans hw.fr.size ((hn9.fa _ (List.mem_singleton.2 rfl)).new k ⟨_, List.mem_singleton.2 rfl, hk⟩)
                refine ⟨_, _, _, rfl, hw.addL hfr hn9, rfl, (Pk.of_sub (List.Sublist.cons_cons _ (List.nil_sublist _))), (fun f hf => List.mem_append_left _ hf), ?_⟩
                refine LO_s rfl rfl rfl (S_appendP [(b0, row 45 (recX r ra rb rc rd)), (b1, row 30 (svR S q1 q3))] (pM 43 q3 (kgS S) ++ ([(b2, row 39 (enX r.2.2.2.1 ra rb))] ++ ownM 39 q9 (([(r.2.2.2.1, n1, n2)] : List EnV).map enW).flatten)) q1 (keS S) (n := S.es.length) (m := 1) (news := (([(r.2.2.2.1, n1, n2)] : List EnV).map enW).flatten) rfl rfl rfl rfl Try.underlying27 elE (by show (((b0, row 45 (recX r ra rb rc rd)) :: svM b1 q1 q3 S) ++ [_]) ++ ownM _ _ _ = _; simp only [svM, List.cons_append, List.append_assoc, List.nil_append]) hq1 (fun w1 hw => src_C Try.underlying27 (SlC.ofM hw (fun p hp => List.mem_append_right _ hp) hq9) (one_map (fun _ => by kernel_rfl) _)) (by omega) (by omega) (fun q' hq' => ⟨(Pk.of_sub (List.Sublist.cons_cons _ (List.nil_sublist _))), (fun f hf => List.mem_append_left _ hf), ?_⟩))
                refine LO_v rfl rfl rfl rfl (V_nilCheck rfl rfl) ?_
                refine LO_v rfl rfl rfl rfl (V_fieldAddr rfl rfl Try.underlying30 rfl sz27ad rfl) ?_
                refine LO_s rfl rfl rfl (S_store1 1 (l' := svC S.t S.v S.sn S.a S.b (.slice (pA q') (S.es.length + 1) (pC q')) (.slice (pA q3) S.gl.length (pC q3))) rfl rfl rfl rfl rfl rfl sz27ad (Nat.le_of_ble_eq_true (by kernel_rfl)) (by kernel_rfl) ⟨(Pk.of_sub (List.Sublist.cons_cons _ (List.nil_sublist _))), (fun f hf => List.mem_append_left _ hf), ?_⟩)
                refine LO_nil ?_
                change J _ _ _ _
                refine J_seq ?_
                refine J_region ?_
                refine L_v rfl rfl rfl (V_assign rfl rfl) ?_
                refine L_nil ?_
                change J _ _ _ _
                refine J_ret ?_
                change Kret _ _ _ Exit.ret _
                refine ret1 rfl rfl (RV_t rfl) ?_
                have e9 : keS { S with es := S.es ++ [(r.2.2.2.1, n1, n2)] } = keS S ++ (([(r.2.2.2.1, n1, n2)] : List EnV).map enW).flatten := by
                  show ((S.es ++ [(r.2.2.2.1, n1, n2)]).map enW).flatten = _
                  rw [List.map_append, List.flatten_append]
                have l9 : ({ S with es := S.es ++ [(r.2.2.2.1, n1, n2)] } : SvS).es.length = S.es.length + 1 := List.length_append
                exact fun w' h => add_yes hx n1 n2 q' q3 (adX_2 hx h4) (adG_2 hx h4) (by rw [e9, l9]; exact hq') hq3 (Upd.of h rfl (Pk.of_sub (by
                  show List.Sublist ((b1, row 30 (svC S.t S.v S.sn S.a S.b (.slice (pA q') ({ S with es := S.es ++ [(r.2.2.2.1, n1, n2)] } : SvS).es.length (pC q')) (.slice (pA q3) S.gl.length (pC q3)))) :: (pM 39 q' (keS { S with es := S.es ++ [(r.2.2.2.1, n1, n2)] }) ++ pM 43 q3 (kgS S))) _
                  rw [e9, l9]
                  exact List.Sublist.cons _ (List.Sublist.cons_cons _ (show List.Sublist (pM 39 q' _ ++ pM 43 q3 (kgS S)) (pM 39 q' _ ++ (pM 43 q3 (kgS S) ++ _)) from List.Sublist.append (List.Sublist.refl _) (List.sublist_append_left _ _)))))
                  (fun f hf => by obtain rfl := List.mem_singleton.1 hf; exact List.mem_append_right _ (List.mem_singleton.2 rfl)) (fun f hf k hk => by obtain rfl := List.mem_singleton.1 hf; obtain ⟨g, hg, hk⟩ := hk; obtain rfl := List.mem_singleton.1 hg; exact n9 k hk))
              ·
                refine LO_s rfl rfl rfl (S_buildSlice (vs := [(0, .agg (enX r.2.2.2.1 ra rb).toArray)]) (l := enX r.2.2.2.1 ra rb) rfl rfl rfl rfl (bsE _ _ _) (fun b2 => ⟨(Pk.of_sub (List.Sublist.cons_cons _ (List.nil_sublist _))), (fun f hf => hf), ?_⟩))
                refine LO_both ?_ ?_
                ·
                  refine LO_s rfl rfl rfl (S_v rfl rfl (V_load1 1 rfl rfl rfl Try.underlying27 rfl (by rfl)) ⟨(Pk.of_sub (List.Sublist.cons_cons _ (List.nil_sublist _))), (fun f hf => hf), ?_⟩)
                  refine LO_s rfl rfl rfl (S_call rfl rfl rfl tx44ad (fun w1 hw => (ownEntries_w [(r.2.2.2.1, ra, rb)] (some ⟨b2, 0, none⟩, 1) w1 (.and (.slc (SlC.in (ks := (([(r.2.2.2.1, ra, rb)] : List EnV).map enW).flatten) (r := []) (fz := (0, 0)) hw (List.mem_append_right _ (List.mem_singleton.2 rfl)) rfl 1)) (.all (.cons (hw.fa 0 rfl).l .nil))) (fun p hp => by obtain rfl := List.mem_singleton.1 hp; exact hB.1) (by show 1 ≤ _; decide)).mono ?_))
                  rintro e w' ⟨q9, gs, rfl, hgs, hfr, hq9, hn9⟩
                  obtain ⟨⟨e9, n1, n2⟩, rfl⟩ := List.length_eq_one_iff.1 (by have h9 := congrArg List.length hgs; rw [List.length_map] at h9; exact h9)
                  obtain rfl : e9 = r.2.2.2.1 := by injection hgs
                  have n9 : ∀ k, (clT 3 r.2.2.2.1.2.2.2.2 n1 n2).fp k → w.heap.size ≤ k := fun k hk => Nat.le_trans hw.fr.size ((hn9.fa _ (List.mem_singleton.2 rfl)).new k ⟨_, List.mem_singleton.2 rfl, hk⟩)
                  refine ⟨_, _, _, rfl, hw.addL hfr hn9, rfl, (Pk.of_sub (List.Sublist.cons_cons _ (List.nil_sublist _))), (fun f hf => List.mem_append_left _ hf), ?_⟩
                  refine LO_s rfl rfl rfl (S_appendP [(b0, row 45 (recX r ra rb rc rd)), (b1, row 30 (svR S q1 q3))] (pM 43 q3 (kgS S) ++ ([(b2, row 39 (enX r.2.2.2.1 ra rb))] ++ ownM 39 q9 (([(r.2.2.2.1, n1, n2)] : List EnV).map enW).flatten)) q1 (keS S) (n := S.es.length) (m := 1) (news := (([(r.2.2.2.1, n1, n2)] : List EnV).map enW).flatten) rfl rfl rfl rfl Try.underlying27 elE (by show (((b0, row 45 (recX r ra rb rc rd)) :: svM b1 q1 q3 S) ++ [_]) ++ ownM _ _ _ = _; simp only [svM, List.cons_append, List.append_assoc, List.nil_append]) hq1 (fun w1 hw => src_C Try.underlying27 (SlC.ofM hw (fun p hp => List.mem_append_right _ hp) hq9) (one_map (fun _ => by kernel_rfl) _)) (by omega) (by omega) (fun q' hq' => ⟨(Pk.of_sub (List.Sublist.cons_cons _ (List.nil_sublist _))), (fun f hf => List.mem_append_left _ hf), ?_⟩))
                  refine LO_v rfl rfl rfl rfl (V_nilCheck rfl rfl) ?_
                  refine LO_v rfl rfl rfl rfl (V_fieldAddr rfl rfl Try.underlying30 rfl sz27ad rfl) ?_
                  refine LO_s rfl rfl rfl (S_store1 1 (l' := svC S.t S.v S.sn S.a S.b (.slice (pA q') (S.es.length + 1) (pC q')) (.slice (pA q3) S.gl.length (pC q3))) rfl rfl rfl rfl rfl rfl sz27ad (Nat.le_of_ble_eq_true (by kernel_rfl)) (by kernel_rfl) ⟨(Pk.of_sub (List.Sublist.cons_cons _ (List.nil_sublist _))), (fun f hf => List.mem_append_left _ hf), ?_⟩)
                  refine LO_nil ?_
                  change J _ _ _ _
                  refine J_seq ?_
                  refine J_region ?_
                  refine L_v rfl rfl rfl (V_assign rfl rfl) ?_
                  refine L_nil ?_
                  change J _ _ _ _
                  refine J_ret ?_
                  change Kret _ _ _ Exit.ret _
                  refine ret1 rfl rfl (RV_t rfl) ?_
                  have e9 : keS { S with es := S.es ++ [(r.2.2.2.1, n1, n2)] } = keS S ++ (([(r.2.2.2.1, n1, n2)] : List EnV).map enW).flatten := by
                    show ((S.es ++ [(r.2.2.2.1, n1, n2)]).map enW).flatten = _
                    rw [List.map_append, List.flatten_append]
                  have l9 : ({ S with es := S.es ++ [(r.2.2.2.1, n1, n2)] } : SvS).es.length = S.es.length + 1 := List.length_append
                  exact fun w' h => add_yes hx n1 n2 q' q3 (adX_2 hx h4) (adG_2 hx h4) (by rw [e9, l9]; exact hq') hq3 (Upd.of h rfl (Pk.of_sub (by
                    show List.Sublist ((b1, row 30 (svC S.t S.v S.sn S.a S.b (.slice (pA q') ({ S with es := S.es ++ [(r.2.2.2.1, n1, n2)] } : SvS).es.length (pC q')) (.slice (pA q3) S.gl.length (pC q3)))) :: (pM 39 q' (keS { S with es := S.es ++ [(r.2.2.2.1, n1, n2)] }) ++ pM 43 q3 (kgS S))) _
                    rw [e9, l9]
                    exact List.Sublist.cons _ (List.Sublist.cons_cons _ (show List.Sublist (pM 39 q' _ ++ pM 43 q3 (kgS S)) (pM 39 q' _ ++ (pM 43 q3 (kgS S) ++ _)) from List.Sublist.append (List.Sublist.refl _) (List.sublist_append_left _ _)))))
                    (fun f hf => by obtain rfl := List.mem_singleton.1 hf; exact List.mem_append_right _ (List.mem_singleton.2 rfl)) (fun f hf k hk => by obtain rfl := List.mem_singleton.1 hf; obtain ⟨g, hg, hk⟩ := hk; obtain rfl := List.mem_singleton.1 hg; exact n9 k hk))
                ·
                  refine LO_s rfl rfl rfl (S_call rfl rfl rfl tx44ad (fun w1 hw => (ownEntries_w [(r.2.2.2.1, ra, rb)] (some ⟨b2, 0, none⟩, 1) w1 (.and (.slc (SlC.in (ks := (([(r.2.2.2.1, ra, rb)] : List EnV).map enW).flatten) (r := []) (fz := (0, 0)) hw (List.mem_append_right _ (List.mem_singleton.2 rfl)) rfl 1)) (.all (.cons (hw.fa 0 rfl).l .nil))) (fun p hp => by obtain rfl := List.mem_singleton.1 hp; exact hB.1) (by show 1 ≤ _; decide)).mono ?_))
                  rintro e w' ⟨q9, gs, rfl, hgs, hfr, hq9, hn9⟩
                  obtain ⟨⟨e9, n1, n2⟩, rfl⟩ := List.length_eq_one_iff.1 (by have h9 := congrArg List.length hgs; rw [List.length_map] at h9; exact h9)
                  obtain rfl : e9 = r.2.2.2.1 := by injection hgs
                  have n9 : ∀ k, (clT 3 r.2.2.2.1.2.2.2.2 n1 n2).fp k → w.heap.size ≤ k := fun k hk => Nat.le_trans hw.fr.size ((hn9.fa _ (List.mem_singleton.2 rfl)).new k ⟨_, List.mem_singleton.2 rfl, hk⟩)
                  refine ⟨_, _, _, rfl, hw.addL hfr hn9, rfl, (Pk.of_sub (List.Sublist.cons_cons _ (List.nil_sublist _))), (fun f hf => List.mem_append_left _ hf), ?_⟩
                  refine LO_s rfl rfl rfl (S_v rfl rfl (V_load1 1 rfl rfl rfl Try.underlying27 rfl (by rfl)) ⟨(Pk.of_sub (List.Sublist.cons_cons _ (List.nil_sublist _))), (fun f hf => List.mem_append_left _ hf), ?_⟩)
                  refine LO_s rfl rfl rfl (S_appendP [(b0, row 45 (recX r ra rb rc rd)), (b1, row 30 (svR S q1 q3))] (pM 43 q3 (kgS S) ++ ([(b2, row 39 (enX r.2.2.2.1 ra rb))] ++ ownM 39 q9 (([(r.2.2.2.1, n1, n2)] : List EnV).map enW).flatten)) q1 (keS S) (n := S.es.length) (m := 1) (news := (([(r.2.2.2.1, n1, n2)] : List EnV).map enW).flatten) rfl rfl rfl rfl Try.underlying27 elE (by show (((b0, row 45 (recX r ra rb rc rd)) :: svM b1 q1 q3 S) ++ [_]) ++ ownM _ _ _ = _; simp only [svM, List.cons_append, List.append_assoc, List.nil_append]) hq1 (fun w1 hw => src_C Try.underlying27 (SlC.ofM hw (fun p hp => List.mem_append_right _ hp) hq9) (one_map (fun _ => by kernel_rfl) _)) (by omega) (by omega) (fun q' hq' => ⟨(Pk.of_sub (List.Sublist.cons_cons _ (List.nil_sublist _))), (fun f hf => List.mem_append_left _ hf), ?_⟩))
                  refine LO_v rfl rfl rfl rfl (V_nilCheck rfl rfl) ?_
                  refine LO_v rfl rfl rfl rfl (V_fieldAddr rfl rfl Try.underlying30 rfl sz27ad rfl) ?_
                  refine LO_s rfl rfl rfl (S_store1 1 (l' := svC S.t S.v S.sn S.a S.b (.slice (pA q') (S.es.length + 1) (pC q')) (.slice (pA q3) S.gl.length (pC q3))) rfl rfl rfl rfl rfl rfl sz27ad (Nat.le_of_ble_eq_true (by kernel_rfl)) (by kernel_rfl) ⟨(Pk.of_sub (List.Sublist.cons_cons _ (List.nil_sublist _))), (fun f hf => List.mem_append_left _ hf), ?_⟩)
                  refine LO_nil ?_
                  change J _ _ _ _
                  refine J_seq ?_
                  refine J_region ?_
                  refine L_v rfl rfl rfl (V_assign rfl rfl) ?_
                  refine L_nil ?_
                  change J _ _ _ _
                  refine J_ret ?_
                  change Kret _ _ _ Exit.ret _
                  refine ret1 rfl rfl (RV_t rfl) ?_
                  have e9 : keS { S with es := S.es ++ [(r.2.2.2.1, n1, n2)] } = keS S ++ (([(r.2.2.2.1, n1, n2)] : List EnV).map enW).flatten := by
                    show ((S.es ++ [(r.2.2.2.1, n1, n2)]).map enW).flatten = _
                    rw [List.map_append, List.flatten_append]
                  have l9 : ({ S with es := S.es ++ [(r.2.2.2.1, n1, n2)] } : SvS).es.length = S.es.length + 1 := List.length_append
                  exact fun w' h => add_yes hx n1 n2 q' q3 (adX_2 hx h4) (adG_2 hx h4) (by rw [e9, l9]; exact hq') hq3 (Upd.of h rfl (Pk.of_sub (by
                    show List.Sublist ((b1, row 30 (svC S.t S.v S.sn S.a S.b (.slice (pA q') ({ S with es := S.es ++ [(r.2.2.2.1, n1, n2)] } : SvS).es.length (pC q')) (.slice (pA q3) S.gl.length (pC q3)))) :: (pM 39 q' (keS { S with es := S.es ++ [(r.2.2.2.1, n1, n2)] }) ++ pM 43 q3 (kgS S))) _
                    rw [e9, l9]
                    exact List.Sublist.cons _ (List.Sublist.cons_cons _ (show List.Sublist (pM 39 q' _ ++ pM 43 q3 (kgS S)) (pM 39 q' _ ++ (pM 43 q3 (kgS S) ++ _)) from List.Sublist.append (List.Sublist.refl _) (List.sublist_append_left _ _)))))
                    (fun f hf => by obtain rfl := List.mem_singleton.1 hf; exact List.mem_append_right _ (List.mem_singleton.2 rfl)) (fun f hf k hk => by obtain rfl := List.mem_singleton.1 hf; obtain ⟨g, hg, hk⟩ := hk; obtain rfl := List.mem_singleton.1 hg; exact n9 k hk))
      ·
        first | (have h4 := of_decide_eq_true h4) | (have h4 := of_decide_eq_false h4) | skip
        refine J_seq ?_
        refine J_region ?_
        refine L_v rfl rfl rfl (V_eql rfl rfl rfl (by first | exact decide_eq_true (by omega) | exact decide_eq_false (by omega) | rfl)) ?_
        refine L_v rfl rfl rfl (V_assign rfl rfl) ?_
        refine L_nil ?_
        change J _ _ _ _
        refine J_cond rfl (fun h5 => ?_) (fun h5 => ?_)
        ·
          first | (have h5 := of_decide_eq_true h5) | (have h5 := of_decide_eq_false h5) | skip
          refine J_seq ?_
          refine J_seq ?_
          refine J_regionQ rfl (by kernel_rfl) ?_
          refine LQ_v rfl rfl rfl (V_fieldAddr rfl rfl Try.underlying45 rfl sz3ad rfl) ?_
          refine LQ_v rfl rfl rfl (V_load1 0 rfl rfl rfl Try.underlying3 rfl (by rfl)) ?_
          refine LQ_v rfl rfl rfl (V_move rfl rfl) ?_
          refine LQ_v rfl rfl rfl (V_nilCheck rfl rfl) ?_
          refine LQ_v rfl rfl rfl (V_fieldAddr rfl rfl Try.underlying30 rfl sz26ad rfl) ?_
          refine LQ_v rfl rfl rfl (V_fieldAddr rfl rfl Try.underlying26 rfl sz3ad rfl) ?_
          refine LQ_v rfl rfl rfl (V_load1 1 rfl rfl rfl Try.underlying3 rfl (by rfl)) ?_
          refine LQ_v rfl rfl rfl (V_leq rfl rfl rfl (by first | exact decide_eq_true (by omega) | exact decide_eq_false (by omega) | rfl)) ?_
          refine LQ_v rfl rfl rfl (V_move rfl rfl) ?_
          apply LQ_or 4 106 111
          · rfl
          · rfl
          · rfl
          · rfl
          · rfl
          · rfl
          · rfl
          · kernel_rfl
          · intro hb6 _ _ hk6
            refine LQ_wv rfl rfl rfl rfl rfl rfl (V_fieldAddr rfl rfl Try.underlying45 rfl sz3ad rfl) ?_
            refine LQ_wv rfl rfl rfl rfl rfl rfl (V_load1 0 rfl rfl rfl Try.underlying3 rfl (by rfl)) ?_
            refine LQ_wv rfl rfl rfl rfl rfl rfl (V_move rfl rfl) ?_
            refine LQ_wv rfl rfl rfl rfl rfl rfl (V_gtr rfl rfl rfl (by first | exact decide_eq_true (by omega) | exact decide_eq_false (by omega) | rfl)) ?_
            exact hk6 _ ⟨rfl, rfl, ext_cut 4 (by kernel_rfl) (by kernel_rfl)⟩
          refine LQ_nil ?_
          change J _ _ _ _
          refine J_cond rfl (fun h7 => ?_) (fun h7 => ?_)
          ·
            first | (have h7 := of_decide_eq_true h7) | (have h7 := of_decide_eq_false h7) | skip
            rw [Bool.or_eq_true, decide_eq_true_eq, decide_eq_true_eq] at h7
            refine J_seq ?_
            refine J_region ?_
            refine L_v rfl rfl rfl (V_assign rfl rfl) ?_
            refine L_nil ?_
            change J _ _ _ _
            refine J_ret ?_
            change Kret _ _ _ Exit.ret _
            refine ret1 rfl rfl (RV_t rfl) ?_
            have hx : adE S.sv r = 110 := by rw [adE_3 hok h5, if_pos (show r.2.2.2.2.1 ≤ S.sv.snap.1 ∨ lastS S.sv < r.2.2.2.2.1 from by rw [svLast]; exact h7)]
            exact fun w' h => add_no hx (by decide) hq1 hq3 (Upd.of h rfl (Pk.of_sub (by first | exact List.Sublist.cons _ (List.Sublist.refl _) | exact List.Sublist.cons _ (List.sublist_append_left _ _))) (fun f hf => by cases hf) (fun f hf => by cases hf))
          ·
            first | (have h7 := of_decide_eq_true h7) | (have h7 := of_decide_eq_false h7) | skip
            rw [Bool.or_eq_false_iff, decide_eq_false_iff_not, decide_eq_false_iff_not] at h7
            obtain ⟨h8, h9⟩ := h7
            have hx : adE S.sv r = 0 := by rw [adE_3 hok h5, if_neg (fun hh => hh.elim h8 (fun h => h9 (by rw [svLast] at h; exact h)))]
            refine J_skip ?_
            change J _ _ _ _
            refine J_regionO (.pure 0 (.pure 1 (.pure 2 (.pure 3 (.pure 5 (.pure 6 (.pure 7 (.pure 8 (.pure 9 (.pure 10 (.two 4 (.one 11 (.pure 12 (.pure 13 (.pure 14 (.pure 15 (.pure 16 (.one 17 (.nil)))))))) 11 (.pure 12 (.pure 13 (.one 4 (.pure 14 (.pure 15 (.pure 16 (.one 17 (.nil))))))))))))))))))) ([(b0, row 45 (recX r ra rb rc rd))]) _ (Pk.of_sub (List.Sublist.cons_cons _ (List.nil_sublist _))) (fun f hf => hf) rfl rfl (by kernel_rfl) ?_
            refine LO_v rfl rfl rfl rfl (V_move rfl rfl) ?_
            refine LO_v rfl rfl rfl rfl (V_move rfl rfl) ?_
            refine LO_v rfl rfl rfl rfl (V_nilCheck rfl rfl) ?_
            refine LO_v rfl rfl rfl rfl (V_fieldAddr rfl rfl Try.underlying30 rfl sz27ad rfl) ?_
            refine LO_v rfl rfl rfl rfl (V_fieldAddr rfl rfl Try.underlying45 rfl sz3ad rfl) ?_
            refine LO_v rfl rfl rfl rfl (V_load1 0 rfl rfl rfl Try.underlying3 rfl (by rfl)) ?_
            refine LO_v rfl rfl rfl rfl (V_move rfl rfl) ?_
            refine LO_v rfl rfl rfl rfl (V_nilCheck rfl rfl) ?_
            refine LO_v rfl rfl rfl rfl (V_fieldAddr rfl rfl Try.underlying30 rfl sz26ad rfl) ?_
            refine LO_v rfl rfl rfl rfl (V_fieldAddr rfl rfl Try.underlying26 rfl sz3ad rfl) ?_
            refine LO_both ?_ ?_
            ·
              refine LO_s rfl rfl rfl (S_v rfl rfl (V_load1 1 rfl rfl rfl Try.underlying27 rfl (by rfl)) ⟨(Pk.of_sub (List.Sublist.cons_cons _ (List.nil_sublist _))), (fun f hf => hf), ?_⟩)
              refine LO_s rfl rfl rfl (S_v rfl rfl (V_load1 1 rfl rfl rfl Try.underlying3 rfl (by rfl)) ⟨(Pk.of_sub (List.Sublist.cons_cons _ (List.nil_sublist _))), (fun f hf => hf), ?_⟩)
              refine LO_v rfl rfl rfl rfl (V_sub rfl rfl rfl (by first | exact Go.IntWalk.i64_in _ (by omega) | rfl)) ?_
              refine LO_v rfl rfl rfl rfl (V_sub rfl rfl rfl (by first | exact Go.IntWalk.i64_in _ (by omega) | rfl)) ?_
              refine LO_v rfl rfl rfl rfl (V_slice0 rfl rfl Try.underlying27 sz39ad (Bd.at (v := (r.2.2.2.2.1 - S.sn.1 - 1).toNat) rfl (by omega)) rfl rfl (by omega) (by omega)) ?_
              refine LO_v rfl rfl rfl rfl (V_nilCheck rfl rfl) ?_
              refine LO_v rfl rfl rfl rfl (V_fieldAddr rfl rfl Try.underlying30 rfl sz27ad rfl) ?_
              refine LO_s rfl rfl rfl (S_store1 1 (l' := svC S.t S.v S.sn S.a S.b (.slice (pA q1) (r.2.2.2.2.1 - S.sn.1 - 1).toNat (pC q1)) (.slice (pA q3) S.gl.length (pC q3))) rfl rfl rfl rfl rfl rfl sz27ad (Nat.le_of_ble_eq_true (by kernel_rfl)) (by kernel_rfl) ⟨(Pk.of_sub (List.Sublist.cons_cons _ (List.nil_sublist _))), (fun f hf => hf), ?_⟩)
              refine LO_nil ?_
              change J _ _ _ _
              refine J_seq ?_
              refine J_region ?_
              refine L_v rfl rfl rfl (V_assign rfl rfl) ?_
              refine L_nil ?_
              change J _ _ _ _
              refine J_ret ?_
              change Kret _ _ _ Exit.ret _
              refine ret1 rfl rfl (RV_t rfl) ?_
              have k9 : (r.2.2.2.2.1 - S.sn.1 - 1).toNat ≤ S.es.length := by omega
              have l9 : (S.es.take (r.2.2.2.2.1 - S.sn.1 - 1).toNat).length = (r.2.2.2.2.1 - S.sn.1 - 1).toNat := by rw [List.length_take]; omega
              have e9 : keS { S with es := S.es.take (r.2.2.2.2.1 - S.sn.1 - 1).toNat } = (keS S).take ((r.2.2.2.2.1 - S.sn.1 - 1).toNat * 43) := (rows_take enW (fun _ => rfl) S.es _).symm
              exact fun w' h => add_yes hx spN spN (pTake 43 (r.2.2.2.2.1 - S.sn.1 - 1).toNat (keS S) q1) q3 (adX_3 hx h5) (adG_0 (by omega) (by omega)) (by rw [e9]; show PC 43 _ (S.es.take _).length _; rw [l9]; exact pTake_C hq1 k9) hq3 (Upd.of h rfl (Pk.of_sub (by
                show List.Sublist ((b1, row 30 (svC S.t S.v S.sn S.a S.b (pV (pTake 43 (r.2.2.2.2.1 - S.sn.1 - 1).toNat (keS S) q1) (S.es.take (r.2.2.2.2.1 - S.sn.1 - 1).toNat).length) (.slice (pA q3) S.gl.length (pC q3)))) :: (pM 39 (pTake 43 (r.2.2.2.2.1 - S.sn.1 - 1).toNat (keS S) q1) (keS { S with es := S.es.take (r.2.2.2.2.1 - S.sn.1 - 1).toNat }) ++ pM 43 q3 (kgS S))) _
                rw [e9, l9, pTake_V, pTake_M]
                exact List.Sublist.cons _ (List.Sublist.refl _))) (fun f hf => by cases hf) (fun f hf => by cases hf))
            ·
              refine LO_s rfl rfl rfl (S_v rfl rfl (V_load1 1 rfl rfl rfl Try.underlying3 rfl (by rfl)) ⟨(Pk.of_sub (List.Sublist.cons_cons _ (List.nil_sublist _))), (fun f hf => hf), ?_⟩)
              refine LO_v rfl rfl rfl rfl (V_sub rfl rfl rfl (by first | exact Go.IntWalk.i64_in _ (by omega) | rfl)) ?_
              refine LO_v rfl rfl rfl rfl (V_sub rfl rfl rfl (by first | exact Go.IntWalk.i64_in _ (by omega) | rfl)) ?_
              refine LO_s rfl rfl rfl (S_v rfl rfl (V_load1 1 rfl rfl rfl Try.underlying27 rfl (by rfl)) ⟨(Pk.of_sub (List.Sublist.cons_cons _ (List.nil_sublist _))), (fun f hf => hf), ?_⟩)
              refine LO_v rfl rfl rfl rfl (V_slice0 rfl rfl Try.underlying27 sz39ad (Bd.at (v := (r.2.2.2.2.1 - S.sn.1 - 1).toNat) rfl (by omega)) rfl rfl (by omega) (by omega)) ?_
              refine LO_v rfl rfl rfl rfl (V_nilCheck rfl rfl) ?_
              refine LO_v rfl rfl rfl rfl (V_fieldAddr rfl rfl Try.underlying30 rfl sz27ad rfl) ?_
              refine LO_s rfl rfl rfl (S_store1 1 (l' := svC S.t S.v S.sn S.a S.b (.slice (pA q1) (r.2.2.2.2.1 - S.sn.1 - 1).toNat (pC q1)) (.slice (pA q3) S.gl.length (pC q3))) rfl rfl rfl rfl rfl rfl sz27ad (Nat.le_of_ble_eq_true (by kernel_rfl)) (by kernel_rfl) ⟨(Pk.of_sub (List.Sublist.cons_cons _ (List.nil_sublist _))), (fun f hf => hf), ?_⟩)
              refine LO_nil ?_
              change J _ _ _ _
              refine J_seq ?_
              refine J_region ?_
              refine L_v rfl rfl rfl (V_assign rfl rfl) ?_
              refine L_nil ?_
              change J _ _ _ _
              refine J_ret ?_
              change Kret _ _ _ Exit.ret _
              refine ret1 rfl rfl (RV_t rfl) ?_
              have k9 : (r.2.2.2.2.1 - S.sn.1 - 1).toNat ≤ S.es.length := by omega
              have l9 : (S.es.take (r.2.2.2.2.1 - S.sn.1 - 1).toNat).length = (r.2.2.2.2.1 - S.sn.1 - 1).toNat := by rw [List.length_take]; omega
              have e9 : keS { S with es := S.es.take (r.2.2.2.2.1 - S.sn.1 - 1).toNat } = (keS S).take ((r.2.2.2.2.1 - S.sn.1 - 1).toNat * 43) := (rows_take enW (fun _ => rfl) S.es _).symm
              exact fun w' h => add_yes hx spN spN (pTake 43 (r.2.2.2.2.1 - S.sn.1 - 1).toNat (keS S) q1) q3 (adX_3 hx h5) (adG_0 (by omega) (by omega)) (by rw [e9]; show PC 43 _ (S.es.take _).length _; rw [l9]; exact pTake_C hq1 k9) hq3 (Upd.of h rfl (Pk.of_sub (by
                show List.Sublist ((b1, row 30 (svC S.t S.v S.sn S.a S.b (pV (pTake 43 (r.2.2.2.2.1 - S.sn.1 - 1).toNat (keS S) q1) (S.es.take (r.2.2.2.2.1 - S.sn.1 - 1).toNat).length) (.slice (pA q3) S.gl.length (pC q3)))) :: (pM 39 (pTake 43 (r.2.2.2.2.1 - S.sn.1 - 1).toNat (keS S) q1) (keS { S with es := S.es.take (r.2.2.2.2.1 - S.sn.1 - 1).toNat }) ++ pM 43 q3 (kgS S))) _
                rw [e9, l9, pTake_V, pTake_M]
                exact List.Sublist.cons _ (List.Sublist.refl _))) (fun f hf => by cases hf) (fun f hf => by cases hf))
        ·
          first | (have h5 := of_decide_eq_true h5) | (have h5 := of_decide_eq_false h5) | skip
          refine J_seq ?_
          refine J_region ?_
          refine L_v rfl rfl rfl (V_eql rfl rfl rfl (by first | exact decide_eq_true (by omega) | exact decide_eq_false (by omega) | rfl)) ?_
          refine L_v rfl rfl rfl (V_assign rfl rfl) ?_
          refine L_nil ?_
          change J _ _ _ _
          refine J_cond rfl (fun h6 => ?_) (fun h6 => ?_)
          ·
            first | (have h6 := of_decide_eq_true h6) | (have h6 := of_decide_eq_false h6) | skip
            refine J_seq ?_
            refine J_region ?_
            refine L_v rfl rfl rfl (V_move rfl rfl) ?_
            refine L_v rfl rfl rfl (V_fieldAddr rfl rfl Try.underlying45 rfl sz26ad rfl) ?_
            refine L_v rfl rfl rfl (V_loadT 0 (vs := snX r.2.2.2.2.2.1 rc rd) rfl rfl rfl Try.underlying26 rfl sz26ad (by kernel_rfl) (by kernel_rfl)) ?_
            refine L_pk (((b0, row 45 (recX r ra rb rc rd)) :: (pM 39 q1 (keS S) ++ pM 43 q3 (kgS S))) ++ [(b1, row 30 (svR S q1 q3))]) (Pk.of_perm (l := (b0, row 45 (recX r ra rb rc rd)) :: svM b1 q1 q3 S) ((List.Perm.swap _ _ _).trans (List.perm_append_singleton _ _).symm) (List.Sublist.refl _)) ?_
            refine L_call rfl rfl rfl rfl tx47ad (fun w1 hw => (install_w b1 S.t S.v S.sn S.a S.b S.es (pA q1, pC q1) (.slice (pA q3) S.gl.length (pC q3)) r.2.2.2.2.2.1 rc rd w1 (hw.memAt (List.sublist_append_right _ _)) (insF hw (fun p hp => List.mem_cons_of_mem _ (List.mem_append_left _ hp)) hq1 rfl) hB.2 (by omega) hq1.le).mono ?_)
            rintro e w' ⟨s1, s2, rfl, hU⟩
            have n9 : ∀ f ∈ (if insE S.sn r.2.2.2.2.2.1 = 0 then [clT 3 r.2.2.2.2.2.1.2.2.1 s1 s2] else []), ∀ k, f.fp k → w.heap.size ≤ k := fun f hf k hk => Nat.le_trans hw.fr.size ((hU.fa f hf).new k hk)
            refine ⟨_, _, _, rfl, OkW.upd hw hU, rfl, ?_⟩
            refine L_v rfl rfl rfl (V_assign rfl rfl) ?_
            refine L_nil ?_
            change J _ _ _ _
            refine J_ret ?_
            change Kret _ _ _ Exit.ret _
            refine ret1 rfl rfl (RV_t rfl) ?_
            have k9 := cut_le r.2.2.2.2.2.1 S.es
            have l9 : (S.es.drop (cutE r.2.2.2.2.2.1 S.es)).length = S.es.length - (cutE r.2.2.2.2.2.1 S.es) := List.length_drop
            have e9 : keS { S with es := S.es.drop (cutE r.2.2.2.2.2.1 S.es), sn := r.2.2.2.2.2.1, a := s1, b := s2 } = (keS S).drop ((cutE r.2.2.2.2.2.1 S.es) * 43) := (rows_drop enW (fun _ => rfl) S.es _).symm
            have ha : adE S.sv r = insE S.sn r.2.2.2.2.2.1 := adE_4 hok h6
            intro w' h
            by_cases hi : insE S.sn r.2.2.2.2.2.1 = 0
            · have hx : adE S.sv r = 0 := ha.trans hi
              rw [hi] at h n9 ⊢
              rw [if_pos rfl, if_pos rfl] at h
              rw [if_pos rfl] at n9
              refine add_yes hx s1 s2 (pDrop 43 (cutE r.2.2.2.2.2.1 S.es) (keS S) q1) q3 (adX_4 hx h6) (adG_4 hx h6) (by rw [e9]; show PC 43 _ (S.es.drop _).length _; rw [l9]; exact pDrop_C hq1 k9) hq3 (Upd.of h rfl (Pk.of_perm (l := (pM 39 q1 (keS S) ++ pM 43 q3 (kgS S)) ++ [(b1, row 30 (svC S.t S.v r.2.2.2.2.2.1 s1 s2 (sDrop (pA q1, pC q1) S.es.length (cutE r.2.2.2.2.2.1 S.es)) (.slice (pA q3) S.gl.length (pC q3))))]) ?_ (List.Sublist.cons _ (List.Sublist.refl _))) (fun f hf => List.mem_append_right _ hf) n9)
              show List.Perm _ ((b1, row 30 (svC S.t S.v r.2.2.2.2.2.1 s1 s2 (pV (pDrop 43 (cutE r.2.2.2.2.2.1 S.es) (keS S) q1) (S.es.drop (cutE r.2.2.2.2.2.1 S.es)).length) (.slice (pA q3) S.gl.length (pC q3)))) :: (pM 39 (pDrop 43 (cutE r.2.2.2.2.2.1 S.es) (keS S) q1) (keS { S with es := S.es.drop (cutE r.2.2.2.2.2.1 S.es), sn := r.2.2.2.2.2.1, a := s1, b := s2 }) ++ pM 43 q3 (kgS S)))
              rw [e9, l9, pDrop_V hq1 k9, pDrop_M 39 hq1 k9]
              exact List.perm_append_singleton _ _
            · have hi2 : insE S.sn r.2.2.2.2.2.1 = 110 := by
                unfold insE at hi ⊢
                split
                · rfl
                · rename_i h9
                  rw [if_neg h9] at hi
                  exact absurd rfl hi
              rw [hi2] at h ⊢
              rw [if_neg (by decide), if_neg (by decide)] at h
              exact add_no (ha.trans hi2) (by decide) hq1 hq3 (Upd.of h rfl (Pk.of_perm (l := (pM 39 q1 (keS S) ++ pM 43 q3 (kgS S)) ++ [(b1, row 30 (svR S q1 q3))]) (List.perm_append_singleton _ _) (List.Sublist.cons _ (List.Sublist.refl _))) (fun f hf => by cases hf) (fun f hf => by cases hf))
          ·
            first | (have h6 := of_decide_eq_true h6) | (have h6 := of_decide_eq_false h6) | skip
            refine J_seq ?_
            refine J_region ?_
            refine L_v rfl rfl rfl (V_eql rfl rfl rfl (by first | exact decide_eq_true (by omega) | exact decide_eq_false (by omega) | rfl)) ?_
            refine L_v rfl rfl rfl (V_assign rfl rfl) ?_
            refine L_nil ?_
            change J _ _ _ _
            refine J_cond rfl (fun h7 => ?_) (fun h7 => ?_)
            ·
              first | (have h7 := of_decide_eq_true h7) | (have h7 := of_decide_eq_false h7) | skip
              refine J_seq ?_
              refine J_region ?_
              refine L_v rfl rfl rfl (V_move rfl rfl) ?_
              refine L_v rfl rfl rfl (V_nilCheck rfl rfl) ?_
              refine L_v rfl rfl rfl (V_fieldAddr rfl rfl Try.underlying30 rfl sz28ad rfl) ?_
              refine L_v rfl rfl rfl (V_load1 1 rfl rfl rfl Try.underlying28 rfl (by rfl)) ?_
              refine L_v rfl rfl rfl (V_len rfl rfl Try.underlying28 rfl) ?_
              refine L_v rfl rfl rfl (V_assign rfl rfl) ?_
              refine L_nil ?_
              change J _ _ _ _
              refine J_seq ?_
              refine J_block ?_
              refine J_seq ?_
              refine J_regionQ rfl (by kernel_rfl) ?_
              refine LQ_v rfl rfl rfl (V_move rfl rfl) ?_
              refine LQ_v rfl rfl rfl (V_gtr rfl rfl rfl (by first | exact decide_eq_true (by omega) | exact decide_eq_false (by omega) | rfl)) ?_
              refine LQ_v rfl rfl rfl (V_move rfl rfl) ?_
              refine LQ_split 145 rfl (fun h8 => ?_) (fun h8 => ?_)
              ·
                first | (have h8 := of_decide_eq_true h8) | (have h8 := of_decide_eq_false h8) | skip
                refine LQ_wv rfl rfl rfl rfl rfl rfl (V_move rfl rfl) ?_
                refine LQ_wv rfl rfl rfl rfl rfl rfl (V_nilCheck rfl rfl) ?_
                refine LQ_wv rfl rfl rfl rfl rfl rfl (V_fieldAddr rfl rfl Try.underlying30 rfl sz28ad rfl) ?_
                refine LQ_wv rfl rfl rfl rfl rfl rfl (V_load1 1 rfl rfl rfl Try.underlying28 rfl (by rfl)) ?_
                refine LQ_wv rfl rfl rfl rfl rfl rfl (V_move rfl rfl) ?_
                refine LQ_wv rfl rfl rfl rfl rfl rfl (V_sub (r := ((S.gl.length - 1 : Nat) : Int)) rfl rfl rfl (by rw [IntKind.wrap_i64]; omega)) ?_
                refine LQ_wv rfl rfl rfl rfl rfl rfl (V_indexC rfl rfl rfl Try.underlying28 sz43ad (fun w hw => PC.slC (e := 43) hw (fun p hp => List.mem_cons_of_mem _ (List.mem_cons_of_mem _ (List.mem_append_right _ hp))) hq3) (by omega) (by omega)) ?_
                refine LQ_wv rfl rfl rfl rfl rfl rfl (V_fieldC rfl rfl (fun w hw => (let ⟨b, o, e, _⟩ := SlC.cell (PC.slC (e := 43) hw (fun p hp => List.mem_cons_of_mem _ (List.mem_cons_of_mem _ (List.mem_append_right _ hp))) hq3) (rows_v (f := sgV) sg0 (i := S.gl.length - 1) (sz := 96) (fun _ => rfl) (by omega) 0 _ rfl); ⟨b, o, e⟩)) Try.underlying43 rfl sz41ad rfl) ?_
                refine LQ_wv rfl rfl rfl rfl rfl rfl (V_fieldC rfl rfl (fun w hw => (let ⟨b, o, e, _⟩ := SlC.cell (PC.slC (e := 43) hw (fun p hp => List.mem_cons_of_mem _ (List.mem_cons_of_mem _ (List.mem_append_right _ hp))) hq3) (rows_v (f := sgV) sg0 (i := S.gl.length - 1) (sz := 96) (fun _ => rfl) (by omega) 0 _ rfl); ⟨b, o, e⟩)) Try.underlying41 rfl sz3ad rfl) ?_
                refine LQ_wv rfl rfl rfl rfl rfl rfl (V_loadC rfl rfl Try.underlying3 rfl (fun w hw => PC.slC (e := 43) hw (fun p hp => List.mem_cons_of_mem _ (List.mem_cons_of_mem _ (List.mem_append_right _ hp))) hq3) (rows_v (f := sgV) sg0 (i := S.gl.length - 1) (sz := 96) (fun _ => rfl) (by omega) 0 _ rfl)) ?_
                refine LQ_wv rfl rfl rfl rfl rfl rfl (V_fieldAddr rfl rfl Try.underlying45 rfl sz43ad rfl) ?_
                refine LQ_wv rfl rfl rfl rfl rfl rfl (V_fieldAddr rfl rfl Try.underlying43 rfl sz41ad rfl) ?_
                refine LQ_wv rfl rfl rfl rfl rfl rfl (V_fieldAddr rfl rfl Try.underlying41 rfl sz3ad rfl) ?_
                refine LQ_wv rfl rfl rfl rfl rfl rfl (V_load1 0 rfl rfl rfl Try.underlying3 rfl (by rfl)) ?_
                refine LQ_wv rfl rfl rfl rfl rfl rfl (V_geq rfl rfl rfl (by first | exact decide_eq_true (by omega) | exact decide_eq_false (by omega) | rfl)) ?_
                first | refine LQ_v rfl rfl rfl (V_pickT rfl rfl rfl) ?_ | refine LQ_v rfl rfl rfl (V_pickF rfl rfl rfl) ?_
                refine LQ_v rfl rfl rfl (V_assign rfl rfl) ?_
                refine LQ_nil ?_
                change J _ _ _ _
                refine J_cond rfl (fun h9 => ?_) (fun h9 => ?_)
                ·
                  first | (have h9 := of_decide_eq_true h9) | (have h9 := of_decide_eq_false h9) | skip
                  refine J_seq ?_
                  refine J_region ?_
                  refine L_v rfl rfl rfl (V_assign rfl rfl) ?_
                  refine L_nil ?_
                  change J _ _ _ _
                  refine J_ret ?_
                  change Kret _ _ _ Exit.ret _
                  refine ret1 rfl rfl (RV_t rfl) ?_
                  have hx : adE S.sv r = 110 := by rw [adE_5 hok h7, if_pos ⟨by show 0 < S.gl.length; omega, h9⟩]
                  exact fun w' h => add_no hx (by decide) hq1 hq3 (Upd.of h rfl (Pk.of_sub (by first | exact List.Sublist.cons _ (List.Sublist.refl _) | exact List.Sublist.cons _ (List.sublist_append_left _ _))) (fun f hf => by cases hf) (fun f hf => by cases hf))
                ·
                  first | (have h9 := of_decide_eq_true h9) | (have h9 := of_decide_eq_false h9) | skip
                  refine J_seq ?_
                  refine J_region ?_
                  refine L_v rfl rfl rfl (V_move rfl rfl) ?_
                  refine L_v rfl rfl rfl (V_eql rfl rfl rfl (by first | exact decide_eq_true (by omega) | exact decide_eq_false (by omega) | rfl)) ?_
                  refine L_v rfl rfl rfl (V_assign rfl rfl) ?_
                  refine L_nil ?_
                  change J _ _ _ _
                  refine J_cond rfl (fun h10 => ?_) (fun h10 => ?_)
                  ·
                    first | (have h10 := of_decide_eq_true h10) | (have h10 := of_decide_eq_false h10) | skip
                    refine J_seq ?_
                    refine J_region ?_
                    refine L_v rfl rfl rfl (V_assign rfl rfl) ?_
                    refine L_nil ?_
                    change J _ _ _ _
                    refine J_ret ?_
                    change Kret _ _ _ Exit.ret _
                    refine ret1 rfl rfl (RV_t rfl) ?_
                    have hx : adE S.sv r = 2 := by rw [adE_5 hok h7, if_neg (fun hh => h9 hh.2), if_pos (by show S.gl.length = 200; omega)]
                    exact fun w' h => add_no hx (by decide) hq1 hq3 (Upd.of h rfl (Pk.of_sub (by first | exact List.Sublist.cons _ (List.Sublist.refl _) | exact List.Sublist.cons _ (List.sublist_append_left _ _))) (fun f hf => by cases hf) (fun f hf => by cases hf))
                  ·
                    first | (have h10 := of_decide_eq_true h10) | (have h10 := of_decide_eq_false h10) | skip
                    have hx : adE S.sv r = 0 := by rw [adE_5 hok h7, if_neg (fun hh => h9 hh.2), if_neg (by show ¬ S.gl.length = 200; omega)]
                    refine J_skip ?_
                    change J _ _ _ _
                    refine J_regionO (.pure 0 (.pure 1 (.pure 2 (.pure 3 (.pure 5 (.pure 6 (.two 4 (.one 7 (.one 8 (.pure 9 (.pure 10 (.one 11 (.nil)))))) 7 (.one 4 (.one 8 (.pure 9 (.pure 10 (.one 11 (.nil))))))))))))) ([(b0, row 45 (recX r ra rb rc rd))]) _ (Pk.of_sub (List.Sublist.cons_cons _ (List.nil_sublist _))) (fun f hf => hf) rfl rfl (by kernel_rfl) ?_
                    refine LO_v rfl rfl rfl rfl (V_move rfl rfl) ?_
                    refine LO_v rfl rfl rfl rfl (V_move rfl rfl) ?_
                    refine LO_v rfl rfl rfl rfl (V_nilCheck rfl rfl) ?_
                    refine LO_v rfl rfl rfl rfl (V_fieldAddr rfl rfl Try.underlying30 rfl sz28ad rfl) ?_
                    refine LO_v rfl rfl rfl rfl (V_fieldAddr rfl rfl Try.underlying45 rfl sz43ad rfl) ?_
                    refine LO_v rfl rfl rfl rfl (V_loadT 0 (vs := sgV r.2.2.2.2.2.2) rfl rfl rfl Try.underlying43 rfl sz43ad (by kernel_rfl) (by kernel_rfl)) ?_
                    refine LO_both ?_ ?_
                    ·
                      refine LO_s rfl rfl rfl (S_v rfl rfl (V_load1 1 rfl rfl rfl Try.underlying28 rfl (by rfl)) ⟨(Pk.of_sub (List.Sublist.cons_cons _ (List.nil_sublist _))), (fun f hf => hf), ?_⟩)
                      refine LO_s rfl rfl rfl (S_buildSlice (vs := [(0, .agg (sgV r.2.2.2.2.2.2).toArray)]) (l := sgV r.2.2.2.2.2.2) rfl rfl rfl rfl (bsG _) (fun b2 => ⟨(Pk.of_sub (List.Sublist.cons_cons _ (List.nil_sublist _))), (fun f hf => hf), ?_⟩))
                      refine LO_s rfl rfl rfl (S_appendP ([(b0, row 45 (recX r ra rb rc rd)), (b1, row 30 (svR S q1 q3))] ++ pM 39 q1 (keS S)) [(b2, row 43 (sgV r.2.2.2.2.2.2))] q3 (kgS S) (n := S.gl.length) (m := 1) (news := sgV r.2.2.2.2.2.2) rfl rfl rfl rfl Try.underlying28 elG (by show ((b0, row 45 (recX r ra rb rc rd)) :: svM b1 q1 q3 S) ++ [_] = _; simp only [svM, List.cons_append, List.append_assoc, List.nil_append]) hq3 (fun w1 hw => src_C Try.underlying28 (SlC.in (r := []) (fz := (0, 0)) hw (List.mem_append_right _ (List.mem_singleton.2 rfl)) rfl 1) (all_one (by kernel_rfl))) (by omega) (by omega) (fun q' hq' => ⟨(Pk.of_sub (List.Sublist.cons_cons _ (List.nil_sublist _))), (fun f hf => hf), ?_⟩))
                      refine LO_v rfl rfl rfl rfl (V_nilCheck rfl rfl) ?_
                      refine LO_v rfl rfl rfl rfl (V_fieldAddr rfl rfl Try.underlying30 rfl sz28ad rfl) ?_
                      refine LO_s rfl rfl rfl (S_store1 1 (l' := svC S.t S.v S.sn S.a S.b (.slice (pA q1) S.es.length (pC q1)) (.slice (pA q') (S.gl.length + 1) (pC q'))) rfl rfl rfl rfl rfl rfl sz28ad (Nat.le_of_ble_eq_true (by kernel_rfl)) (by kernel_rfl) ⟨(Pk.of_sub (List.Sublist.cons_cons _ (List.nil_sublist _))), (fun f hf => hf), ?_⟩)
                      refine LO_nil ?_
                      change J _ _ _ _
                      refine J_seq ?_
                      refine J_region ?_
                      refine L_v rfl rfl rfl (V_assign rfl rfl) ?_
                      refine L_nil ?_
                      change J _ _ _ _
                      refine J_ret ?_
                      change Kret _ _ _ Exit.ret _
                      refine ret1 rfl rfl (RV_t rfl) ?_
                      have e9 : kgS { S with gl := S.gl ++ [r.2.2.2.2.2.2] } = kgS S ++ sgV r.2.2.2.2.2.2 := by
                        show ((S.gl ++ [r.2.2.2.2.2.2]).map sgV).flatten = _
                        rw [List.map_append, List.flatten_append, List.map_singleton, List.flatten_singleton]
                      have l9 : ({ S with gl := S.gl ++ [r.2.2.2.2.2.2] } : SvS).gl.length = S.gl.length + 1 := List.length_append
                      exact fun w' h => add_yes hx spN spN q1 q' (adX_5 hx h7) (adG_0 (by omega) (by omega)) hq1 (by rw [e9, l9]; exact hq') (Upd.of h rfl (Pk.of_sub (by
                        show List.Sublist ((b1, row 30 (svC S.t S.v S.sn S.a S.b (.slice (pA q1) S.es.length (pC q1)) (.slice (pA q') ({ S with gl := S.gl ++ [r.2.2.2.2.2.2] } : SvS).gl.length (pC q')))) :: (pM 39 q1 (keS S) ++ pM 43 q' (kgS { S with gl := S.gl ++ [r.2.2.2.2.2.2] }))) _
                        rw [e9, l9]
                        exact List.Sublist.cons _ (List.Sublist.cons_cons _ (show List.Sublist (pM 39 q1 (keS S) ++ pM 43 q' _) (pM 39 q1 (keS S) ++ (pM 43 q' _ ++ _)) from by rw [← List.append_assoc]; exact List.sublist_append_left _ _)))) (fun f hf => by cases hf) (fun f hf => by cases hf))
                    ·
                      refine LO_s rfl rfl rfl (S_buildSlice (vs := [(0, .agg (sgV r.2.2.2.2.2.2).toArray)]) (l := sgV r.2.2.2.2.2.2) rfl rfl rfl rfl (bsG _) (fun b2 => ⟨(Pk.of_sub (List.Sublist.cons_cons _ (List.nil_sublist _))), (fun f hf => hf), ?_⟩))
                      refine LO_s rfl rfl rfl (S_v rfl rfl (V_load1 1 rfl rfl rfl Try.underlying28 rfl (by rfl)) ⟨(Pk.of_sub (List.Sublist.cons_cons _ (List.nil_sublist _))), (fun f hf => hf), ?_⟩)
                      refine LO_s rfl rfl rfl (S_appendP ([(b0, row 45 (recX r ra rb rc rd)), (b1, row 30 (svR S q1 q3))] ++ pM 39 q1 (keS S)) [(b2, row 43 (sgV r.2.2.2.2.2.2))] q3 (kgS S) (n := S.gl.length) (m := 1) (news := sgV r.2.2.2.2.2.2) rfl rfl rfl rfl Try.underlying28 elG (by show ((b0, row 45 (recX r ra rb rc rd)) :: svM b1 q1 q3 S) ++ [_] = _; simp only [svM, List.cons_append, List.append_assoc, List.nil_append]) hq3 (fun w1 hw => src_C Try.underlying28 (SlC.in (r := []) (fz := (0, 0)) hw (List.mem_append_right _ (List.mem_singleton.2 rfl)) rfl 1) (all_one (by kernel_rfl))) (by omega) (by omega) (fun q' hq' => ⟨(Pk.of_sub (List.Sublist.cons_cons _ (List.nil_sublist _))), (fun f hf => hf), ?_⟩))
                      refine LO_v rfl rfl rfl rfl (V_nilCheck rfl rfl) ?_
                      refine LO_v rfl rfl rfl rfl (V_fieldAddr rfl rfl Try.underlying30 rfl sz28ad rfl) ?_
                      refine LO_s rfl rfl rfl (S_store1 1 (l' := svC S.t S.v S.sn S.a S.b (.slice (pA q1) S.es.length (pC q1)) (.slice (pA q') (S.gl.length + 1) (pC q'))) rfl rfl rfl rfl rfl rfl sz28ad (Nat.le_of_ble_eq_true (by kernel_rfl)) (by kernel_rfl) ⟨(Pk.of_sub (List.Sublist.cons_cons _ (List.nil_sublist _))), (fun f hf => hf), ?_⟩)
                      refine LO_nil ?_
                      change J _ _ _ _
                      refine J_seq ?_
                      refine J_region ?_
                      refine L_v rfl rfl rfl (V_assign rfl rfl) ?_
                      refine L_nil ?_
                      change J _ _ _ _
                      refine J_ret ?_
                      change Kret _ _ _ Exit.ret _
                      refine ret1 rfl rfl (RV_t rfl) ?_
                      have e9 : kgS { S with gl := S.gl ++ [r.2.2.2.2.2.2] } = kgS S ++ sgV r.2.2.2.2.2.2 := by
                        show ((S.gl ++ [r.2.2.2.2.2.2]).map sgV).flatten = _
                        rw [List.map_append, List.flatten_append, List.map_singleton, List.flatten_singleton]
                      have l9 : ({ S with gl := S.gl ++ [r.2.2.2.2.2.2] } : SvS).gl.length = S.gl.length + 1 := List.length_append
                      exact fun w' h => add_yes hx spN spN q1 q' (adX_5 hx h7) (adG_0 (by omega) (by omega)) hq1 (by rw [e9, l9]; exact hq') (Upd.of h rfl (Pk.of_sub (by
                        show List.Sublist ((b1, row 30 (svC S.t S.v S.sn S.a S.b (.slice (pA q1) S.es.length (pC q1)) (.slice (pA q') ({ S with gl := S.gl ++ [r.2.2.2.2.2.2] } : SvS).gl.length (pC q')))) :: (pM 39 q1 (keS S) ++ pM 43 q' (kgS { S with gl := S.gl ++ [r.2.2.2.2.2.2] }))) _
                        rw [e9, l9]
                        exact List.Sublist.cons _ (List.Sublist.cons_cons _ (show List.Sublist (pM 39 q1 (keS S) ++ pM 43 q' _) (pM 39 q1 (keS S) ++ (pM 43 q' _ ++ _)) from by rw [← List.append_assoc]; exact List.sublist_append_left _ _)))) (fun f hf => by cases hf) (fun f hf => by cases hf))
              ·
                first | (have h8 := of_decide_eq_true h8) | (have h8 := of_decide_eq_false h8) | skip
                refine LQ_skip rfl rfl rfl rfl rfl rfl rfl ?_
                refine LQ_skip rfl rfl rfl rfl rfl rfl rfl ?_
                refine LQ_skip rfl rfl rfl rfl rfl rfl rfl ?_
                refine LQ_skip rfl rfl rfl rfl rfl rfl rfl ?_
                refine LQ_skip rfl rfl rfl rfl rfl rfl rfl ?_
                refine LQ_skip rfl rfl rfl rfl rfl rfl rfl ?_
                refine LQ_skip rfl rfl rfl rfl rfl rfl rfl ?_
                refine LQ_skip rfl rfl rfl rfl rfl rfl rfl ?_
                refine LQ_skip rfl rfl rfl rfl rfl rfl rfl ?_
                refine LQ_skip rfl rfl rfl rfl rfl rfl rfl ?_
                refine LQ_skip rfl rfl rfl rfl rfl rfl rfl ?_
                refine LQ_skip rfl rfl rfl rfl rfl rfl rfl ?_
                refine LQ_skip rfl rfl rfl rfl rfl rfl rfl ?_
                refine LQ_skip rfl rfl rfl rfl rfl rfl rfl ?_
                refine LQ_skip rfl rfl rfl rfl rfl rfl rfl ?_
                first | refine LQ_v rfl rfl rfl (V_pickT rfl rfl rfl) ?_ | refine LQ_v rfl rfl rfl (V_pickF rfl rfl rfl) ?_
                refine LQ_v rfl rfl rfl (V_assign rfl rfl) ?_
                refine LQ_nil ?_
                change J _ _ _ _
                refine J_false rfl ?_
                refine J_seq ?_
                refine J_region ?_
                refine L_v rfl rfl rfl (V_move rfl rfl) ?_
                refine L_v rfl rfl rfl (V_eql rfl rfl rfl (by first | exact decide_eq_true (by omega) | exact decide_eq_false (by omega) | rfl)) ?_
                refine L_v rfl rfl rfl (V_assign rfl rfl) ?_
                refine L_nil ?_
                change J _ _ _ _
                refine J_false rfl ?_
                have hx : adE S.sv r = 0 := by rw [adE_5 hok h7, if_neg (fun hh => h8 (by have : 0 < S.gl.length := hh.1; omega)), if_neg (by show ¬ S.gl.length = 200; omega)]
                refine J_skip ?_
                change J _ _ _ _
                refine J_regionO (.pure 0 (.pure 1 (.pure 2 (.pure 3 (.pure 5 (.pure 6 (.two 4 (.one 7 (.one 8 (.pure 9 (.pure 10 (.one 11 (.nil)))))) 7 (.one 4 (.one 8 (.pure 9 (.pure 10 (.one 11 (.nil))))))))))))) ([(b0, row 45 (recX r ra rb rc rd))]) _ (Pk.of_sub (List.Sublist.cons_cons _ (List.nil_sublist _))) (fun f hf => hf) rfl rfl (by kernel_rfl) ?_
                refine LO_v rfl rfl rfl rfl (V_move rfl rfl) ?_
                refine LO_v rfl rfl rfl rfl (V_move rfl rfl) ?_
                refine LO_v rfl rfl rfl rfl (V_nilCheck rfl rfl) ?_
                refine LO_v rfl rfl rfl rfl (V_fieldAddr rfl rfl Try.underlying30 rfl sz28ad rfl) ?_
                refine LO_v rfl rfl rfl rfl (V_fieldAddr rfl rfl Try.underlying45 rfl sz43ad rfl) ?_
                refine LO_v rfl rfl rfl rfl (V_loadT 0 (vs := sgV r.2.2.2.2.2.2) rfl rfl rfl Try.underlying43 rfl sz43ad (by kernel_rfl) (by kernel_rfl)) ?_
                refine LO_both ?_ ?_
                ·
                  refine LO_s rfl rfl rfl (S_v rfl rfl (V_load1 1 rfl rfl rfl Try.underlying28 rfl (by rfl)) ⟨(Pk.of_sub (List.Sublist.cons_cons _ (List.nil_sublist _))), (fun f hf => hf), ?_⟩)
                  refine LO_s rfl rfl rfl (S_buildSlice (vs := [(0, .agg (sgV r.2.2.2.2.2.2).toArray)]) (l := sgV r.2.2.2.2.2.2) rfl rfl rfl rfl (bsG _) (fun b2 => ⟨(Pk.of_sub (List.Sublist.cons_cons _ (List.nil_sublist _))), (fun f hf => hf), ?_⟩))
                  refine LO_s rfl rfl rfl (S_appendP ([(b0, row 45 (recX r ra rb rc rd)), (b1, row 30 (svR S q1 q3))] ++ pM 39 q1 (keS S)) [(b2, row 43 (sgV r.2.2.2.2.2.2))] q3 (kgS S) (n := S.gl.length) (m := 1) (news := sgV r.2.2.2.2.2.2) rfl rfl rfl rfl Try.underlying28 elG (by show ((b0, row 45 (recX r ra rb rc rd)) :: svM b1 q1 q3 S) ++ [_] = _; simp only [svM, List.cons_append, List.append_assoc, List.nil_append]) hq3 (fun w1 hw => src_C Try.underlying28 (SlC.in (r := []) (fz := (0, 0)) hw (List.mem_append_right _ (List.mem_singleton.2 rfl)) rfl 1) (all_one (by kernel_rfl))) (by omega) (by omega) (fun q' hq' => ⟨(Pk.of_sub (List.Sublist.cons_cons _ (List.nil_sublist _))), (fun f hf => hf), ?_⟩))
                  refine LO_v rfl rfl rfl rfl (V_nilCheck rfl rfl) ?_
                  refine LO_v rfl rfl rfl rfl (V_fieldAddr rfl rfl Try.underlying30 rfl sz28ad rfl) ?_
                  refine LO_s rfl rfl rfl (S_store1 1 (l' := svC S.t S.v S.sn S.a S.b (.slice (pA q1) S.es.length (pC q1)) (.slice (pA q') (S.gl.length + 1) (pC q'))) rfl rfl rfl rfl rfl rfl sz28ad (Nat.le_of_ble_eq_true (by kernel_rfl)) (by kernel_rfl) ⟨(Pk.of_sub (List.Sublist.cons_cons _ (List.nil_sublist _))), (fun f hf => hf), ?_⟩)
                  refine LO_nil ?_
                  change J _ _ _ _
                  refine J_seq ?_
                  refine J_region ?_
                  refine L_v rfl rfl rfl (V_assign rfl rfl) ?_
                  refine L_nil ?_
                  change J _ _ _ _
                  refine J_ret ?_
                  change Kret _ _ _ Exit.ret _
                  refine ret1 rfl rfl (RV_t rfl) ?_
                  have e9 : kgS { S with gl := S.gl ++ [r.2.2.2.2.2.2] } = kgS S ++ sgV r.2.2.2.2.2.2 := by
                    show ((S.gl ++ [r.2.2.2.2.2.2]).map sgV).flatten = _
                    rw [List.map_append, List.flatten_append, List.map_singleton, List.flatten_singleton]
                  have l9 : ({ S with gl := S.gl ++ [r.2.2.2.2.2.2] } : SvS).gl.length = S.gl.length + 1 := List.length_append
                  exact fun w' h => add_yes hx spN spN q1 q' (adX_5 hx h7) (adG_0 (by omega) (by omega)) hq1 (by rw [e9, l9]; exact hq') (Upd.of h rfl (Pk.of_sub (by
                    show List.Sublist ((b1, row 30 (svC S.t S.v S.sn S.a S.b (.slice (pA q1) S.es.length (pC q1)) (.slice (pA q') ({ S with gl := S.gl ++ [r.2.2.2.2.2.2] } : SvS).gl.length (pC q')))) :: (pM 39 q1 (keS S) ++ pM 43 q' (kgS { S with gl := S.gl ++ [r.2.2.2.2.2.2] }))) _
                    rw [e9, l9]
                    exact List.Sublist.cons _ (List.Sublist.cons_cons _ (show List.Sublist (pM 39 q1 (keS S) ++ pM 43 q' _) (pM 39 q1 (keS S) ++ (pM 43 q' _ ++ _)) from by rw [← List.append_assoc]; exact List.sublist_append_left _ _)))) (fun f hf => by cases hf) (fun f hf => by cases hf))
                ·
                  refine LO_s rfl rfl rfl (S_buildSlice (vs := [(0, .agg (sgV r.2.2.2.2.2.2).toArray)]) (l := sgV r.2.2.2.2.2.2) rfl rfl rfl rfl (bsG _) (fun b2 => ⟨(Pk.of_sub (List.Sublist.cons_cons _ (List.nil_sublist _))), (fun f hf => hf), ?_⟩))
                  refine LO_s rfl rfl rfl (S_v rfl rfl (V_load1 1 rfl rfl rfl Try.underlying28 rfl (by rfl)) ⟨(Pk.of_sub (List.Sublist.cons_cons _ (List.nil_sublist _))), (fun f hf => hf), ?_⟩)
                  refine LO_s rfl rfl rfl (S_appendP ([(b0, row 45 (recX r ra rb rc rd)), (b1, row 30 (svR S q1 q3))] ++ pM 39 q1 (keS S)) [(b2, row 43 (sgV r.2.2.2.2.2.2))] q3 (kgS S) (n := S.gl.length) (m := 1) (news := sgV r.2.2.2.2.2.2) rfl rfl rfl rfl Try.underlying28 elG (by show ((b0, row 45 (recX r ra rb rc rd)) :: svM b1 q1 q3 S) ++ [_] = _; simp only [svM, List.cons_append, List.append_assoc, List.nil_append]) hq3 (fun w1 hw => src_C Try.underlying28 (SlC.in (r := []) (fz := (0, 0)) hw (List.mem_append_right _ (List.mem_singleton.2 rfl)) rfl 1) (all_one (by kernel_rfl))) (by omega) (by omega) (fun q' hq' => ⟨(Pk.of_sub (List.Sublist.cons_cons _ (List.nil_sublist _))), (fun f hf => hf), ?_⟩))
                  refine LO_v rfl rfl rfl rfl (V_nilCheck rfl rfl) ?_
                  refine LO_v rfl rfl rfl rfl (V_fieldAddr rfl rfl Try.underlying30 rfl sz28ad rfl) ?_
                  refine LO_s rfl rfl rfl (S_store1 1 (l' := svC S.t S.v S.sn S.a S.b (.slice (pA q1) S.es.length (pC q1)) (.slice (pA q') (S.gl.length + 1) (pC q'))) rfl rfl rfl rfl rfl rfl sz28ad (Nat.le_of_ble_eq_true (by kernel_rfl)) (by kernel_rfl) ⟨(Pk.of_sub (List.Sublist.cons_cons _ (List.nil_sublist _))), (fun f hf => hf), ?_⟩)
                  refine LO_nil ?_
                  change J _ _ _ _
                  refine J_seq ?_
                  refine J_region ?_
                  refine L_v rfl rfl rfl (V_assign rfl rfl) ?_
                  refine L_nil ?_
                  change J _ _ _ _
                  refine J_ret ?_
                  change Kret _ _ _ Exit.ret _
                  refine ret1 rfl rfl (RV_t rfl) ?_
                  have e9 : kgS { S with gl := S.gl ++ [r.2.2.2.2.2.2] } = kgS S ++ sgV r.2.2.2.2.2.2 := by
                    show ((S.gl ++ [r.2.2.2.2.2.2]).map sgV).flatten = _
                    rw [List.map_append, List.flatten_append, List.map_singleton, List.flatten_singleton]
                  have l9 : ({ S with gl := S.gl ++ [r.2.2.2.2.2.2] } : SvS).gl.length = S.gl.length + 1 := List.length_append
                  exact fun w' h => add_yes hx spN spN q1 q' (adX_5 hx h7) (adG_0 (by omega) (by omega)) hq1 (by rw [e9, l9]; exact hq') (Upd.of h rfl (Pk.of_sub (by
                    show List.Sublist ((b1, row 30 (svC S.t S.v S.sn S.a S.b (.slice (pA q1) S.es.length (pC q1)) (.slice (pA q') ({ S with gl := S.gl ++ [r.2.2.2.2.2.2] } : SvS).gl.length (pC q')))) :: (pM 39 q1 (keS S) ++ pM 43 q' (kgS { S with gl := S.gl ++ [r.2.2.2.2.2.2] }))) _
                    rw [e9, l9]
                    exact List.Sublist.cons _ (List.Sublist.cons_cons _ (show List.Sublist (pM 39 q1 (keS S) ++ pM 43 q' _) (pM 39 q1 (keS S) ++ (pM 43 q' _ ++ _)) from by rw [← List.append_assoc]; exact List.sublist_append_left _ _)))) (fun f hf => by cases hf) (fun f hf => by cases hf))
            ·
              first | (have h7 := of_decide_eq_true h7) | (have h7 := of_decide_eq_false h7) | skip
              refine J_skip ?_
              change J _ _ _ _
              refine J_seq ?_
              refine J_region ?_
              refine L_v rfl rfl rfl (V_assign rfl rfl) ?_
              refine L_nil ?_
              change J _ _ _ _
              refine J_ret ?_
              change Kret _ _ _ Exit.ret _
              refine ret1 rfl rfl (RV_t rfl) ?_
              exact (may_kind hok.2).elim (fun h => absurd h h3) (fun h => h.elim (fun h => absurd h h4) (fun h => h.elim (fun h => absurd h h5) (fun h => h.elim (fun h => absurd h h6) (fun h => absurd h h7))))

end Go.Proofs.Ytcdenfkbhefbbaa
