/- The reference of the vault: what is right, and which records may be. -/
import Derived.Test.YtcdenfkbhefbbaaV13
set_option linter.unusedVariables false
set_option linter.unusedSimpArgs false
set_option maxRecDepth 100000
namespace Go.Proofs.Ytcdenfkbhefbbaa
open Go.Sx
theorem elR : ElemOf Try.prog 45 149 384 (.agg (recX (0, 0, 0, en0, 0, sn0, sg0) spN spN spN spN).toArray) := elem_of (by kernel_rfl) (by kernel_rfl)
theorem rcW_len (p : RcV) : (rcW p).length = 149 := rfl
theorem bsR (p : RcV) (w : World) : (Instr.buildSlice 74 1 [(0, .agg (rcW p).toArray)].toArray).run Try.prog w = .ok (.slice (some ⟨w.heap.size, 0, none⟩) 1 1) (w.alloc (row 45 (rcW p))) := by kernel_rfl
theorem rput_rec (p : RcV) (w : World) (h : FA w (rcA p)) : Calls Try.prog 32 #[.agg (rcW p).toArray] w fun e w' => ∃ v, e = .returned (.tuple #[v, .int .i64 (putE p.1)]) ∧ Fr [] w w' := by
  refine (rputrecord_w _ _ _ _ p.1 w (rcA_f h) (by decide)).mono ?_
  rintro e w' ⟨hfr, hR⟩
  unfold putE
  cases h1 : encTs (recC.tk p.1) with
  | ok M =>
    rw [h1] at hR
    obtain ⟨a, n, c, rfl, _⟩ := hR
    exact ⟨_, rfl, hfr⟩
  | error k =>
    rw [h1] at hR
    exact ⟨_, hR, hfr⟩
/-- The records that tell what is saved, plain. -/
def RS (S : SvS) : List Rec := (RL S.t S.v S.sn spN spN S.es S.gl).map Prod.fst
theorem RS_len (S : SvS) : (RS S).length = offN S.sn + S.es.length + S.gl.length := by unfold RS; rw [List.length_map, RL_len]
theorem RS_0 (S : SvS) : (RS S).take 1 = [tR S.t S.v] := by unfold RS RL; split <;> rfl
theorem RS_1 {S : SvS} (h : S.sn = sn0) : (RS S).take (offN S.sn + 0) = [tR S.t S.v] := by unfold offN; rw [if_pos h]; exact RS_0 S
theorem RS_2 {S : SvS} (h : ¬ S.sn = sn0) : (RS S).take (offN S.sn + 0) = [tR S.t S.v, nR S.sn] := by
  unfold offN RS RL
  rw [if_neg h, if_neg h]
  rfl
theorem RS_e {S : SvS} {i : Nat} (h : i < S.es.length) : (RS S).take (offN S.sn + (i + 1)) = (RS S).take (offN S.sn + i) ++ [eR (S.es.getD i env0).1] := by
  have hl : offN S.sn + i < (RS S).length := by rw [RS_len]; omega
  have h1 := take_s (tR 0 0) hl
  have h2 : (RS S).getD (offN S.sn + i) (tR 0 0) = eR (S.es.getD i env0).1 := by
    unfold RS
    rw [getD_map' Prod.fst rc0 (tR 0 0) (by rw [RL_len]; omega), RL_e h]
  rw [h2] at h1
  exact h1
theorem RS_g {S : SvS} {i : Nat} (h : i < S.gl.length) : (RS S).take (offN S.sn + S.es.length + (i + 1)) = (RS S).take (offN S.sn + S.es.length + i) ++ [gR (S.gl.getD i sg0)] := by
  have hl : offN S.sn + S.es.length + i < (RS S).length := by rw [RS_len]; omega
  have h1 := take_s (tR 0 0) hl
  have h2 : (RS S).getD (offN S.sn + S.es.length + i) (tR 0 0) = gR (S.gl.getD i sg0) := by
    unfold RS
    rw [getD_map' Prod.fst rc0 (tR 0 0) (by rw [RL_len]; omega), RL_g h]
  rw [h2] at h1
  exact h1
theorem RS_told {S : SvS} {L : List RcV} (h : L.map Prod.fst = RS S) : (∀ p ∈ L, okR p.1 = true) ↔ toldP S.sv := by
  have e : toldP S.sv ↔ ∀ p ∈ RL S.t S.v S.sn spN spN S.es S.gl, okR p.1 = true := told_iff.symm
  rw [e]
  have k1 : ∀ M : List RcV, (∀ p ∈ M, okR p.1 = true) ↔ ∀ x ∈ M.map Prod.fst, okR x = true := fun M =>
    ⟨fun h x hx => by obtain ⟨p, hp, rfl⟩ := List.mem_map.1 hx; exact h p hp, fun h p hp => h p.1 (List.mem_map.2 ⟨p, hp, rfl⟩)⟩
  rw [k1, h, k1]
  exact Iff.rfl
theorem mem3 {a b c d : Fact} : ∀ f ∈ [a] ++ [b, d], f ∈ (([a] ++ [b]) ++ [c]) ++ [d] := by
  intro f hf
  simp only [List.mem_append, List.mem_cons, List.not_mem_nil, or_false] at hf ⊢
  rcases hf with h | h | h
  · exact .inl (.inl (.inl h))
  · exact .inl (.inl (.inr h))
  · exact .inr h
theorem rcW_app (acc : List RcV) (p : RcV) : (acc.map rcW).flatten ++ rcW p = ((acc ++ [p]).map rcW).flatten := by simp
theorem factsR_app {f0 fs : List Fact} {acc : List RcV} {p : RcV} (h : ∀ f ∈ f0 ++ acc.map rcA, f ∈ fs) (h9 : rcA p ∈ fs) : ∀ f ∈ f0 ++ (acc ++ [p]).map rcA, f ∈ fs := by
  intro f hf
  simp only [List.map_append, List.mem_append, List.map_cons, List.map_nil, List.mem_singleton] at hf h
  rcases hf with h1 | h1 | rfl
  · exact h f (.inl h1)
  · exact h f (.inr h1)
  · exact h9
theorem rc_none {x : Rec} (h1 : x.2.2.2.1 = en0) (h2 : x.2.2.2.2.2.1 = sn0) : (∀ w, (rcA (x, spN, spN, spN, spN)).p w) ∧ ∀ k, ¬ (rcA (x, spN, spN, spN, spN)).fp k := by
  obtain ⟨a, b, c, d, e, f, g⟩ := x
  simp only at h1 h2
  subst h1 h2
  refine ⟨fun w => (FA.and clA_0 clA_0 : FA w _).1, fun k hk => ?_⟩
  rcases hk with (h | h) | h | h <;> exact absurd rfl h.1
theorem new_app {acc : List RcV} {p : RcV} {N : Nat} (h : ∀ f ∈ acc.map rcA, ∀ k, f.fp k → N ≤ k) (hp : ∀ k, (rcA p).fp k → N ≤ k) : ∀ f ∈ (acc ++ [p]).map rcA, ∀ k, f.fp k → N ≤ k := by
  intro f hf
  rw [List.map_append] at hf
  rcases List.mem_append.1 hf with h1 | h1
  · exact h f h1
  · obtain rfl := List.mem_singleton.1 h1
    exact hp
theorem ri_mono {gl : List Sg} {i : Nat} (h : riB gl i = true) (hi : gl.length ≤ i) : riB gl gl.length = true := decide_eq_true fun j hj h0 => of_decide_eq_true h j (by omega) h0
theorem rcn_fp {x : Sn} {a b : Sp} : ∀ k, (rcA (nR x, spN, spN, a, b)).fp k → (clA x.2.2.1 a b).fp k := by
  rintro k ((h | h) | h)
  · exact absurd rfl h.1
  · exact absurd rfl h.1
  · exact h
theorem rce_fp {x : En} {a b : Sp} : ∀ k, (rcA (eR x, a, b, spN, spN)).fp k → (clA x.2.2.2.2 a b).fp k := by
  rintro k (h | (h | h))
  · exact h
  · exact absurd rfl h.1
  · exact absurd rfl h.1
theorem sz3rr : (Try.prog.info? 3).map (·.size) = some 1 := by kernel_rfl
theorem sz26rr : (Try.prog.info? 26).map (·.size) = some 5 := by kernel_rfl
theorem sz27rr : (Try.prog.info? 27).map (·.size) = some 1 := by kernel_rfl
theorem sz28rr : (Try.prog.info? 28).map (·.size) = some 1 := by kernel_rfl
theorem sz30rr : (Try.prog.info? 30).map (·.size) = some 9 := by kernel_rfl
theorem sz39rr : (Try.prog.info? 39).map (·.size) = some 43 := by kernel_rfl
theorem sz43rr : (Try.prog.info? 43).map (·.size) = some 97 := by kernel_rfl
theorem tx16rr : Txt Try.prog 16 := txt_of Try.func16 rfl (by kernel_rfl)
theorem tx17rr : Txt Try.prog 17 := txt_of Try.func17 rfl (by kernel_rfl)
theorem tx27rr : Txt Try.prog 27 := txt_of Try.func27 rfl (by kernel_rfl)
theorem tx30rr : Txt Try.prog 30 := txt_of Try.func30 rfl (by kernel_rfl)
theorem z30rr : (Try.prog.info? 30).bind (·.zero) = some (.agg [.int .i64 0, .int .i64 0, .int .i64 0, .int .i64 0, .slice none 0 0, .slice none 0 0, .string ByteArray.empty, .slice none 0 0, .slice none 0 0].toArray) := by kernel_rfl

theorem rfar_w (n : Int) (w : World) :
    Calls Try.prog 29 #[.int .i64 n] w fun e w' => e = .returned (.bool (decide (far n))) ∧ Fr [] w w' := by
  refine calls_of (args := [.int .i64 n]) ([]) ([]) ([]) Try.func29 rfl rfl (okW0 _ _ _ _) ?_
  refine J_seq ?_
  refine J_region ?_
  refine L_v rfl rfl rfl (V_assign rfl rfl) ?_
  refine L_nil ?_
  change J _ _ _ _
  refine J_seq ?_
  refine J_region ?_
  refine L_v rfl rfl rfl (V_move rfl rfl) ?_
  refine L_v rfl rfl rfl (V_gtr rfl rfl rfl rfl) ?_
  refine L_v rfl rfl rfl (V_assign rfl rfl) ?_
  refine L_nil ?_
  change J _ _ _ _
  refine J_ret ?_
  change Kret _ _ _ Exit.ret _
  refine ret1 rfl rfl (RV_t rfl) ?_
  exact fun w' h => ⟨rfl, h.fr⟩

theorem bare_w (x : Sn) (a b : Sp) (w : World) (f1 : FA w (clA x.2.2.1 a b)) (hB : SzC x.2.2.1) :
    Calls Try.prog 30 #[.agg (snX x a b).toArray] w fun e w' => e = .returned (.bool (decide (x = sn0))) ∧ Fr [] w w' := by
  refine calls_of (args := [.agg (snX x a b).toArray]) ([]) ([]) ([clA x.2.2.1 a b]) Try.func30 rfl rfl (okFW (.cons f1 .nil)) ?_
  refine J_seq ?_
  refine J_region ?_
  refine L_box rfl rfl rfl rfl rfl (fun b0 => ?_)
  refine L_v rfl rfl rfl (V_assign rfl rfl) ?_
  refine L_nil ?_
  change J _ _ _ _
  refine J_seq ?_
  refine J_region ?_
  refine L_v rfl rfl rfl (V_loadT 0 (vs := snX x a b) rfl rfl rfl Try.underlying26 rfl sz26rr (by kernel_rfl) (by kernel_rfl)) ?_
  refine L_v rfl rfl rfl (V_buildE (v := .agg (snX sn0 spN spN).toArray) rfl rfl (fun w => by kernel_rfl)) ?_
  refine L_callV rfl rfl rfl rfl rfl rfl tx27rr (fun w1 hw => sameSnap_w x sn0 a b spN spN w1 (hw.fa 0 rfl) clA_0 hB) ?_
  refine L_v rfl rfl rfl (V_assign rfl rfl) ?_
  refine L_nil ?_
  change J _ _ _ _
  refine J_ret ?_
  change Kret _ _ _ Exit.ret _
  refine ret1 rfl rfl (RV_t rfl) ?_
  exact fun w' h => ⟨rfl, h.fr⟩

theorem no_w (k : Int) (w : World) :
    Calls Try.prog 24 #[.int .i64 k] w fun e w' => e = .returned (.tuple #[.agg (svX SS0 spN spN).toArray, .int .i64 k]) ∧ Fr [] w w' := by
  refine calls_of (args := [.int .i64 k]) ([]) ([]) ([]) Try.func24 rfl rfl (okW0 _ _ _ _) ?_
  refine J_seq ?_
  refine J_region ?_
  refine L_alloc rfl rfl rfl rfl z30rr (fun b0 => ?_)
  refine L_v rfl rfl rfl (V_assign rfl rfl) ?_
  refine L_nil ?_
  change J _ _ _ _
  refine J_seq ?_
  refine J_region ?_
  refine L_v rfl rfl rfl (V_buildE (v := .agg (svX SS0 spN spN).toArray) rfl rfl (fun w => by kernel_rfl)) ?_
  refine L_v rfl rfl rfl (V_move rfl rfl) ?_
  refine L_storeW 0 rfl rfl rfl rfl rfl rfl (szd sz30rr (by kernel_rfl)) (all_one (by kernel_rfl)) (by kernel_rfl) ?_
  refine L_v rfl rfl rfl (V_assign rfl rfl) ?_
  refine L_nil ?_
  change J _ _ _ _
  refine J_ret ?_
  change Kret _ _ _ Exit.ret _
  refine ret2 rfl rfl (RV_c 0 rfl rfl Try.underlying30 rfl (szd sz30rr (by kernel_rfl))) (RV_t rfl) ?_
  exact fun w' h => ⟨rfl, h.fr⟩

theorem last_w (S : SvS) (s s3 : Sp) (w : World) (hn : 0 ≤ S.sn.1 ∧ S.sn.1 ≤ 900000000) (hl : S.es.length ≤ 9000) :
    Calls Try.prog 48 #[.agg (svX S s s3).toArray] w fun e w' => e = .returned (.int .i64 (S.sn.1 + (S.es.length : Int))) ∧ Fr [] w w' := by
  refine calls_of (args := [.agg (svX S s s3).toArray]) ([]) ([]) ([]) Try.func48 rfl rfl (okW0 _ _ _ _) ?_
  refine J_seq ?_
  refine J_region ?_
  refine L_box rfl rfl rfl rfl rfl (fun b0 => ?_)
  refine L_v rfl rfl rfl (V_assign rfl rfl) ?_
  refine L_nil ?_
  change J _ _ _ _
  refine J_seq ?_
  refine J_region ?_
  refine L_v rfl rfl rfl (V_fieldAddr rfl rfl Try.underlying30 rfl sz26rr rfl) ?_
  refine L_v rfl rfl rfl (V_fieldAddr rfl rfl Try.underlying26 rfl sz3rr rfl) ?_
  refine L_v rfl rfl rfl (V_load1 0 rfl rfl rfl Try.underlying3 rfl (by rfl)) ?_
  refine L_v rfl rfl rfl (V_fieldAddr rfl rfl Try.underlying30 rfl sz27rr rfl) ?_
  refine L_v rfl rfl rfl (V_load1 0 rfl rfl rfl Try.underlying27 rfl (by rfl)) ?_
  refine L_v rfl rfl rfl (V_len rfl rfl Try.underlying27 rfl) ?_
  refine L_v rfl rfl rfl (V_add rfl rfl rfl (by first | exact Go.IntWalk.i64_in _ (by omega) | rfl)) ?_
  refine L_v rfl rfl rfl (V_assign rfl rfl) ?_
  refine L_nil ?_
  change J _ _ _ _
  refine J_ret ?_
  change Kret _ _ _ Exit.ret _
  refine ret1 rfl rfl (RV_t rfl) ?_
  exact fun w' h => ⟨rfl, h.fr⟩

set_option maxHeartbeats 4000000 in
theorem rrecs_w (S : SvS) (s s3 : Sp) (w : World) (f1 : FA w (svF S s s3)) (hz : SzB S) (hE : S.es.length ≤ 9000) (hG : S.gl.length ≤ 200) :
    Calls Try.prog 31 #[.agg (svX S s s3).toArray] w fun e w' => ∃ (L : List RcV) (s' : Sp), L.map Prod.fst = RS S ∧ e = .returned (.slice s'.1 (offN S.sn + S.es.length + S.gl.length) s'.2) ∧ Fr [] w w' ∧ NewF w w' (andF (factC 149 (.slice s'.1 (offN S.sn + S.es.length + S.gl.length) s'.2) (offN S.sn + S.es.length + S.gl.length) (L.map rcW).flatten) (allF (L.map rcA))) := by
  have ho2 : offN S.sn ≤ 2 := by unfold offN; split <;> omega
  refine calls_of (args := [.agg (svX S s s3).toArray]) ([]) ([]) ([svF S s s3]) Try.func31 rfl rfl (okFW (.cons f1 .nil)) ?_
  refine J_deriv (rcA ((tR S.t S.v, spN, spN, spN, spN) : RcV)) (fun w _ => (rc_none rfl rfl).1 w) (fun k hk => absurd hk ((rc_none rfl rfl).2 k)) ?_
  refine J_seq ?_
  refine J_region ?_
  refine L_box rfl rfl rfl rfl rfl (fun b0 => ?_)
  refine L_v rfl rfl rfl (V_assign rfl rfl) ?_
  refine L_nil ?_
  change J _ _ _ _
  refine J_seq ?_
  refine J_region ?_
  refine L_v rfl rfl rfl (V_fieldAddr rfl rfl Try.underlying30 rfl sz3rr rfl) ?_
  refine L_v rfl rfl rfl (V_load1 0 rfl rfl rfl Try.underlying3 rfl (by rfl)) ?_
  refine L_v rfl rfl rfl (V_fieldAddr rfl rfl Try.underlying30 rfl sz3rr rfl) ?_
  refine L_v rfl rfl rfl (V_load1 0 rfl rfl rfl Try.underlying3 rfl (by rfl)) ?_
  refine L_v rfl rfl rfl (V_buildE (v := .agg (rcW ((tR S.t S.v, spN, spN, spN, spN) : RcV)).toArray) rfl rfl (fun w => by kernel_rfl)) ?_
  refine L_buildSlice (vs := [(0, .agg (rcW ((tR S.t S.v, spN, spN, spN, spN) : RcV)).toArray)]) (l := rcW ((tR S.t S.v, spN, spN, spN, spN) : RcV)) rfl rfl rfl rfl rfl (bsR _) (fun b1 => ?_)
  refine L_v rfl rfl rfl (V_assign rfl rfl) ?_
  refine L_nil ?_
  change J _ _ _ _
  refine J_seq ?_
  refine J_seq ?_
  refine J_region ?_
  refine L_v rfl rfl rfl (V_fieldAddr rfl rfl Try.underlying30 rfl sz26rr rfl) ?_
  refine L_v rfl rfl rfl (V_loadT 0 (vs := snX S.sn S.a S.b) rfl rfl rfl Try.underlying26 rfl sz26rr (by kernel_rfl) (by kernel_rfl)) ?_
  refine L_callV rfl rfl rfl rfl rfl rfl tx30rr (fun w1 hw => bare_w S.sn S.a S.b w1 (hw.fa 0 rfl).l hz.1) ?_
  refine L_v rfl rfl rfl (V_not rfl rfl rfl) ?_
  refine L_nil ?_
  change J _ _ _ _
  refine J_cond rfl (fun h1 => ?_) (fun h1 => ?_)
  ·
    first | (have h1 := of_decide_eq_true h1) | (have h1 := of_decide_eq_false h1) | skip
    have hsn : ¬ S.sn = sn0 := by simpa using h1
    have ho : offN S.sn = 2 := if_neg hsn
    refine J_region ?_
    refine L_v rfl rfl rfl (V_move rfl rfl) ?_
    refine L_v rfl rfl rfl (V_fieldAddr rfl rfl Try.underlying30 rfl sz26rr rfl) ?_
    refine L_v rfl rfl rfl (V_loadT 0 (vs := snX S.sn S.a S.b) rfl rfl rfl Try.underlying26 rfl sz26rr (by kernel_rfl) (by kernel_rfl)) ?_
    refine L_call rfl rfl rfl rfl tx16rr (fun w1 hw => (ownSnap_w S.sn S.a S.b w1 (hw.fa 0 rfl).l hz.1).mono ?_)
    rintro e w' ⟨s1, s2, rfl, hfr, hn1⟩
    have n1 : ∀ k, (rcA ((nR S.sn, spN, spN, s1, s2) : RcV)).fp k → w.heap.size ≤ k := fun k hk => Nat.le_trans hw.fr.size (hn1.new k (rcn_fp k hk))
    refine ⟨_, _, _, rfl, (hw.newN hfr hn1).deriv (f := rcA ((nR S.sn, spN, spN, s1, s2) : RcV)) (FA.and clA_0 hn1.fa : FA _ _).1 (fun k hk => ⟨_, List.mem_append_right _ (List.mem_singleton.2 rfl), rcn_fp k hk⟩), rfl, ?_⟩
    refine L_v rfl rfl rfl (V_buildE (v := .agg (rcW ((nR S.sn, spN, spN, s1, s2) : RcV)).toArray) rfl rfl (fun w => by kernel_rfl)) ?_
    refine L_buildSlice (vs := [(0, .agg (rcW ((nR S.sn, spN, spN, s1, s2) : RcV)).toArray)]) (l := rcW ((nR S.sn, spN, spN, s1, s2) : RcV)) rfl rfl rfl rfl rfl (bsR _) (fun b2 => ?_)
    refine L_appN [(b0, row 30 (svX S s s3))] [(b2, row 45 (rcW ((nR S.sn, spN, spN, s1, s2) : RcV)))] (some (b1, 1, [])) (rcW ((tR S.t S.v, spN, spN, spN, spN) : RcV)) (n := 1) (m := 1) (n' := 2) (news := rcW ((nR S.sn, spN, spN, s1, s2) : RcV)) (ks' := rcW ((tR S.t S.v, spN, spN, spN, spN) : RcV) ++ rcW ((nR S.sn, spN, spN, s1, s2) : RcV)) rfl rfl rfl rfl rfl Try.underlying74 elR rfl ⟨rfl, Nat.le_refl _, rfl⟩ (fun w1 hw => src_C Try.underlying74 (SlC.in (ks := rcW ((nR S.sn, spN, spN, s1, s2) : RcV)) (r := []) (fz := (0, 0)) hw (List.mem_append_right _ (List.mem_singleton.2 rfl)) rfl 1) (all_one (by kernel_rfl))) rfl rfl (by decide) (by decide) (fun q4 hq4 => ?_)
    refine L_v rfl rfl rfl (V_assign rfl rfl) ?_
    refine L_nil ?_
    change J _ _ _ _
    refine J_seq ?_
    refine J_seq ?_
    refine J_region ?_
    refine L_v rfl rfl rfl (V_assign rfl rfl) ?_
    refine L_nil ?_
    change J _ _ _ _
    refine J_block ?_
    refine J_loop (X := Nat × OwnR × List RcV) (fun x => { env := [(1, .pointer (some ⟨b0, 0, none⟩)), (3, ownV x.2.1 (offN S.sn + x.1)), (4, .int .i64 (x.1 : Int))], mem := [(b0, row 30 (svX S s s3))] ++ ownM 45 x.2.1 (x.2.2.map rcW).flatten, facts := [svF S s s3] ++ x.2.2.map rcA }) (fun x => x.1 ≤ S.es.length ∧ OwnC 149 x.2.1 (offN S.sn + x.1) (x.2.2.map rcW).flatten ∧ x.2.2.map Prod.fst = (RS S).take (offN S.sn + x.1) ∧ ∀ f ∈ x.2.2.map rcA, ∀ k, f.fp k → w.heap.size ≤ k) (fun x => S.es.length - x.1) (0, q4, [((tR S.t S.v, spN, spN, spN, spN) : RcV), ((nR S.sn, spN, spN, s1, s2) : RcV)]) ⟨Nat.zero_le _, (by show OwnC 149 q4 (offN S.sn + 0) (([((tR S.t S.v, spN, spN, spN, spN) : RcV), ((nR S.sn, spN, spN, s1, s2) : RcV)] : List RcV).map rcW).flatten; rw [ho]; exact hq4), (RS_2 hsn).symm, (by intro f hf; simp only [List.map_cons, List.map_nil, List.mem_cons, List.not_mem_nil, or_false] at hf; rcases hf with rfl | rfl; exact fun k hk => absurd hk ((rc_none rfl rfl).2 k); exact n1)⟩ ⟨⟨rfl, (by show _ = some (ownV _ (offN S.sn + 0)); rw [ho]; rfl), rfl, trivial⟩, List.Sublist.cons_cons _ (List.sublist_append_left _ _), mem3, rfl⟩ ?_
    rintro ⟨i, q, acc⟩ ⟨hin, hq, hac, hfR⟩
    simp only at hin hq hac hfR ⊢
    refine J_seq ?_
    refine J_seq ?_
    refine J_region ?_
    refine L_v rfl rfl rfl (V_move rfl rfl) ?_
    refine L_v rfl rfl rfl (V_fieldAddr rfl rfl Try.underlying30 rfl sz27rr rfl) ?_
    refine L_v rfl rfl rfl (V_load1 0 rfl rfl rfl Try.underlying27 rfl (by rfl)) ?_
    refine L_v rfl rfl rfl (V_len rfl rfl Try.underlying27 rfl) ?_
    refine L_v rfl rfl rfl (V_lss rfl rfl rfl (by first | exact decide_eq_true (by omega) | exact decide_eq_false (by omega) | rfl)) ?_
    refine L_nil ?_
    change J _ _ _ _
    refine J_cond rfl (fun h2 => ?_) (fun h2 => ?_)
    ·
      first | (have h2 := of_decide_eq_true h2) | (have h2 := of_decide_eq_false h2) | skip
      have hi : i < S.es.length := by omega
      refine J_skip ?_
      change J _ _ _ _
      refine J_seq ?_
      refine J_block ?_
      refine J_region ?_
      refine L_v rfl rfl rfl (V_move rfl rfl) ?_
      refine L_v rfl rfl rfl (V_fieldAddr rfl rfl Try.underlying30 rfl sz27rr rfl) ?_
      refine L_v rfl rfl rfl (V_load1 0 rfl rfl rfl Try.underlying27 rfl (by rfl)) ?_
      refine L_v rfl rfl rfl (V_move rfl rfl) ?_
      refine L_v rfl rfl rfl (V_indexC rfl rfl rfl Try.underlying27 sz39rr (fun w hw => (hw.fa 0 rfl).r.l.l.1) (by omega) (by omega)) ?_
      refine L_v rfl rfl rfl (V_loadCN (vs := enX ((S.es.getD i env0).1) ((S.es.getD i env0).2.1) ((S.es.getD i env0).2.2)) rfl rfl Try.underlying39 rfl (szd sz39rr (by kernel_rfl)) (fun w hw => (hw.fa 0 rfl).r.l.l.1) (by exact Nat.zero_lt_succ _) (rows_v (f := enW) env0 (sz := 42) (fun _ => rfl) (by omega))) ?_
      refine L_call rfl rfl rfl rfl tx17rr (fun w1 hw => (ownEntry_w (S.es.getD i env0).1 _ _ w1 ((hw.fa 0 rfl).r.l.r.of (List.mem_map.2 ⟨_, getD_mem hi, rfl⟩)) (hz.2.1 _ (getD_mem hi))).mono ?_)
      rintro e w' ⟨s4, s5, rfl, hfr, hn3⟩
      have n3 : ∀ k, (rcA ((eR (S.es.getD i env0).1, s4, s5, spN, spN) : RcV)).fp k → w.heap.size ≤ k := fun k hk => Nat.le_trans hw.fr.size (hn3.new k (rce_fp k hk))
      refine ⟨_, _, _, rfl, (hw.newN hfr hn3).deriv (f := rcA ((eR (S.es.getD i env0).1, s4, s5, spN, spN) : RcV)) (FA.and hn3.fa clA_0 : FA _ _).1 (fun k hk => ⟨_, List.mem_append_right _ (List.mem_singleton.2 rfl), rce_fp k hk⟩), rfl, ?_⟩
      refine L_v rfl rfl rfl (V_buildE (v := .agg (rcW ((eR (S.es.getD i env0).1, s4, s5, spN, spN) : RcV)).toArray) rfl rfl (fun w => by kernel_rfl)) ?_
      refine L_buildSlice (vs := [(0, .agg (rcW ((eR (S.es.getD i env0).1, s4, s5, spN, spN) : RcV)).toArray)]) (l := rcW ((eR (S.es.getD i env0).1, s4, s5, spN, spN) : RcV)) rfl rfl rfl rfl rfl (bsR _) (fun b9 => ?_)
      refine L_appN [(b0, row 30 (svX S s s3))] [(b9, row 45 (rcW ((eR (S.es.getD i env0).1, s4, s5, spN, spN) : RcV)))] q (acc.map rcW).flatten (n := offN S.sn + i) (m := 1) (n' := offN S.sn + (i + 1)) (news := rcW ((eR (S.es.getD i env0).1, s4, s5, spN, spN) : RcV)) (ks' := (acc.map rcW).flatten ++ rcW ((eR (S.es.getD i env0).1, s4, s5, spN, spN) : RcV)) rfl rfl rfl rfl rfl Try.underlying74 elR (List.append_assoc _ _ _) hq (fun w1 hw => src_C Try.underlying74 (SlC.in (ks := rcW ((eR (S.es.getD i env0).1, s4, s5, spN, spN) : RcV)) (r := []) (fz := (0, 0)) hw (List.mem_append_right _ (List.mem_singleton.2 rfl)) rfl 1) (all_one (by kernel_rfl))) (by omega) rfl (by omega) (by omega) (fun q4 hq4 => ?_)
      refine L_v rfl rfl rfl (V_assign rfl rfl) ?_
      refine L_nil ?_
      change J _ _ _ _
      refine J_region ?_
      refine L_v rfl rfl rfl (V_move rfl rfl) ?_
      refine L_v rfl rfl rfl (V_add rfl rfl rfl (by first | exact Go.IntWalk.i64_in _ (by omega) | rfl)) ?_
      refine L_v rfl rfl rfl (V_assign rfl rfl) ?_
      refine L_nil ?_
      exact ⟨(i + 1, q4, acc ++ [((eR (S.es.getD i env0).1, s4, s5, spN, spN) : RcV)]), ⟨by show i + 1 ≤ S.es.length; omega, by show OwnC 149 q4 (offN S.sn + (i + 1)) ((acc ++ [_]).map rcW).flatten; rw [← rcW_app]; exact hq4, by show (acc ++ [_]).map Prod.fst = (RS S).take (offN S.sn + (i + 1)); rw [RS_e hi, List.map_append, hac]; rfl, new_app hfR (n3)⟩, by show S.es.length - (i + 1) < S.es.length - i; omega, ⟨rfl, rfl, rfl, trivial⟩, (by show List.Sublist ([(b0, row 30 (svX S s s3))] ++ ownM 45 q4 ((acc ++ [((eR (S.es.getD i env0).1, s4, s5, spN, spN) : RcV)]).map rcW).flatten) _; rw [← rcW_app]; exact List.Sublist.cons_cons _ (List.sublist_append_left _ _)), factsR_app (fun f hf => List.mem_append_left _ (List.mem_append_left _ hf)) (List.mem_append_right _ (List.mem_singleton.2 rfl)), rfl⟩
    ·
      first | (have h2 := of_decide_eq_true h2) | (have h2 := of_decide_eq_false h2) | skip
      obtain rfl : i = S.es.length := by omega
      refine J_exit ?_
      change J _ _ _ _
      refine J_seq ?_
      refine J_seq ?_
      refine J_region ?_
      refine L_v rfl rfl rfl (V_assign rfl rfl) ?_
      refine L_nil ?_
      change J _ _ _ _
      refine J_block ?_
      refine J_loop (X := Nat × OwnR × List RcV) (fun x => { env := [(1, .pointer (some ⟨b0, 0, none⟩)), (3, ownV x.2.1 (offN S.sn + S.es.length + x.1)), (5, .int .i64 (x.1 : Int))], mem := [(b0, row 30 (svX S s s3))] ++ ownM 45 x.2.1 (x.2.2.map rcW).flatten, facts := [svF S s s3] ++ x.2.2.map rcA }) (fun x => x.1 ≤ S.gl.length ∧ OwnC 149 x.2.1 (offN S.sn + S.es.length + x.1) (x.2.2.map rcW).flatten ∧ x.2.2.map Prod.fst = (RS S).take (offN S.sn + S.es.length + x.1) ∧ ∀ f ∈ x.2.2.map rcA, ∀ k, f.fp k → w.heap.size ≤ k) (fun x => S.gl.length - x.1) (0, q, acc) ⟨Nat.zero_le _, hq, hac, hfR⟩ ⟨⟨rfl, rfl, rfl, trivial⟩, List.Sublist.refl _, fun f hf => hf, rfl⟩ ?_
      rintro ⟨i, q, acc⟩ ⟨hin, hq, hac, hfR⟩
      simp only at hin hq hac hfR ⊢
      refine J_seq ?_
      refine J_seq ?_
      refine J_region ?_
      refine L_v rfl rfl rfl (V_move rfl rfl) ?_
      refine L_v rfl rfl rfl (V_fieldAddr rfl rfl Try.underlying30 rfl sz28rr rfl) ?_
      refine L_v rfl rfl rfl (V_load1 0 rfl rfl rfl Try.underlying28 rfl (by rfl)) ?_
      refine L_v rfl rfl rfl (V_len rfl rfl Try.underlying28 rfl) ?_
      refine L_v rfl rfl rfl (V_lss rfl rfl rfl (by first | exact decide_eq_true (by omega) | exact decide_eq_false (by omega) | rfl)) ?_
      refine L_nil ?_
      change J _ _ _ _
      refine J_cond rfl (fun h3 => ?_) (fun h3 => ?_)
      ·
        first | (have h3 := of_decide_eq_true h3) | (have h3 := of_decide_eq_false h3) | skip
        have hi : i < S.gl.length := by omega
        refine J_deriv (rcA ((gR (S.gl.getD i sg0), spN, spN, spN, spN) : RcV)) (fun w _ => (rc_none rfl rfl).1 w) (fun k hk => absurd hk ((rc_none rfl rfl).2 k)) ?_
        refine J_skip ?_
        change J _ _ _ _
        refine J_seq ?_
        refine J_block ?_
        refine J_region ?_
        refine L_v rfl rfl rfl (V_move rfl rfl) ?_
        refine L_v rfl rfl rfl (V_fieldAddr rfl rfl Try.underlying30 rfl sz28rr rfl) ?_
        refine L_v rfl rfl rfl (V_load1 0 rfl rfl rfl Try.underlying28 rfl (by rfl)) ?_
        refine L_v rfl rfl rfl (V_move rfl rfl) ?_
        refine L_v rfl rfl rfl (V_indexC rfl rfl rfl Try.underlying28 sz43rr (fun w hw => (hw.fa 0 rfl).r.r.1) (by omega) (by omega)) ?_
        refine L_v rfl rfl rfl (V_loadCN (vs := sgV (S.gl.getD i sg0)) rfl rfl Try.underlying43 rfl (szd sz43rr (by kernel_rfl)) (fun w hw => (hw.fa 0 rfl).r.r.1) (by exact Nat.zero_lt_succ _) (rows_v (f := sgV) sg0 (sz := 96) (fun _ => rfl) (by omega))) ?_
        refine L_v rfl rfl rfl (V_buildE (v := .agg (rcW ((gR (S.gl.getD i sg0), spN, spN, spN, spN) : RcV)).toArray) rfl rfl (fun w => by kernel_rfl)) ?_
        refine L_buildSlice (vs := [(0, .agg (rcW ((gR (S.gl.getD i sg0), spN, spN, spN, spN) : RcV)).toArray)]) (l := rcW ((gR (S.gl.getD i sg0), spN, spN, spN, spN) : RcV)) rfl rfl rfl rfl rfl (bsR _) (fun b9 => ?_)
        refine L_appN [(b0, row 30 (svX S s s3))] [(b9, row 45 (rcW ((gR (S.gl.getD i sg0), spN, spN, spN, spN) : RcV)))] q (acc.map rcW).flatten (n := offN S.sn + S.es.length + i) (m := 1) (n' := offN S.sn + S.es.length + (i + 1)) (news := rcW ((gR (S.gl.getD i sg0), spN, spN, spN, spN) : RcV)) (ks' := (acc.map rcW).flatten ++ rcW ((gR (S.gl.getD i sg0), spN, spN, spN, spN) : RcV)) rfl rfl rfl rfl rfl Try.underlying74 elR (List.append_assoc _ _ _) hq (fun w1 hw => src_C Try.underlying74 (SlC.in (ks := rcW ((gR (S.gl.getD i sg0), spN, spN, spN, spN) : RcV)) (r := []) (fz := (0, 0)) hw (List.mem_append_right _ (List.mem_singleton.2 rfl)) rfl 1) (all_one (by kernel_rfl))) (by omega) rfl (by omega) (by omega) (fun q4 hq4 => ?_)
        refine L_v rfl rfl rfl (V_assign rfl rfl) ?_
        refine L_nil ?_
        change J _ _ _ _
        refine J_region ?_
        refine L_v rfl rfl rfl (V_move rfl rfl) ?_
        refine L_v rfl rfl rfl (V_add rfl rfl rfl (by first | exact Go.IntWalk.i64_in _ (by omega) | rfl)) ?_
        refine L_v rfl rfl rfl (V_assign rfl rfl) ?_
        refine L_nil ?_
        exact ⟨(i + 1, q4, acc ++ [((gR (S.gl.getD i sg0), spN, spN, spN, spN) : RcV)]), ⟨by show i + 1 ≤ S.gl.length; omega, by show OwnC 149 q4 (offN S.sn + S.es.length + (i + 1)) ((acc ++ [_]).map rcW).flatten; rw [← rcW_app]; exact hq4, by show (acc ++ [_]).map Prod.fst = (RS S).take (offN S.sn + S.es.length + (i + 1)); rw [RS_g hi, List.map_append, hac]; rfl, new_app hfR (fun k hk => absurd hk ((rc_none rfl rfl).2 k))⟩, by show S.gl.length - (i + 1) < S.gl.length - i; omega, ⟨rfl, rfl, rfl, trivial⟩, (by show List.Sublist ([(b0, row 30 (svX S s s3))] ++ ownM 45 q4 ((acc ++ [((gR (S.gl.getD i sg0), spN, spN, spN, spN) : RcV)]).map rcW).flatten) _; rw [← rcW_app]; exact List.Sublist.cons_cons _ (List.sublist_append_left _ _)), factsR_app (fun f hf => List.mem_append_left _ hf) (List.mem_append_right _ (List.mem_singleton.2 rfl)), rfl⟩
      ·
        first | (have h3 := of_decide_eq_true h3) | (have h3 := of_decide_eq_false h3) | skip
        obtain rfl : i = S.gl.length := by omega
        refine J_exit ?_
        change J _ _ _ _
        refine J_seq ?_
        refine J_region ?_
        refine L_v rfl rfl rfl (V_move rfl rfl) ?_
        refine L_v rfl rfl rfl (V_assign rfl rfl) ?_
        refine L_nil ?_
        change J _ _ _ _
        refine J_ret ?_
        change Kret _ _ _ Exit.ret _
        refine ret1 rfl rfl (RV_t rfl) ?_
        rw [← RS_len, List.take_length] at hac
        exact fun w' h => ⟨acc, (oA q, oC q), hac, rfl, h.fr, NewF.and (NewF.own (T := 45) h rfl (fun x hx => List.mem_append_right _ hx) hq) (.all fun f hf => ⟨⟨(h.facts f (List.mem_append_right _ hf)).1, fun k hk => ((h.facts f (List.mem_append_right _ hf)).2 k hk).1⟩, hfR f hf⟩)⟩
  ·
    first | (have h1 := of_decide_eq_true h1) | (have h1 := of_decide_eq_false h1) | skip
    have hsn : S.sn = sn0 := by simpa using h1
    have ho : offN S.sn = 1 := if_pos hsn
    refine J_skip ?_
    change J _ _ _ _
    refine J_seq ?_
    refine J_seq ?_
    refine J_region ?_
    refine L_v rfl rfl rfl (V_assign rfl rfl) ?_
    refine L_nil ?_
    change J _ _ _ _
    refine J_block ?_
    refine J_loop (X := Nat × OwnR × List RcV) (fun x => { env := [(1, .pointer (some ⟨b0, 0, none⟩)), (3, ownV x.2.1 (offN S.sn + x.1)), (4, .int .i64 (x.1 : Int))], mem := [(b0, row 30 (svX S s s3))] ++ ownM 45 x.2.1 (x.2.2.map rcW).flatten, facts := [svF S s s3] ++ x.2.2.map rcA }) (fun x => x.1 ≤ S.es.length ∧ OwnC 149 x.2.1 (offN S.sn + x.1) (x.2.2.map rcW).flatten ∧ x.2.2.map Prod.fst = (RS S).take (offN S.sn + x.1) ∧ ∀ f ∈ x.2.2.map rcA, ∀ k, f.fp k → w.heap.size ≤ k) (fun x => S.es.length - x.1) (0, some (b1, 1, []), [((tR S.t S.v, spN, spN, spN, spN) : RcV)]) ⟨Nat.zero_le _, (by show OwnC 149 _ (offN S.sn + 0) _; rw [ho]; exact ⟨rfl, Nat.le_refl _, rfl⟩), (RS_1 hsn).symm, (by intro f hf; simp only [List.map_cons, List.map_nil, List.mem_cons, List.not_mem_nil, or_false] at hf; obtain rfl := hf; exact fun k hk => absurd hk ((rc_none rfl rfl).2 k))⟩ ⟨⟨rfl, (by show _ = some (ownV _ (offN S.sn + 0)); rw [ho]; rfl), rfl, trivial⟩, List.Sublist.refl _, fun f hf => hf, rfl⟩ ?_
    rintro ⟨i, q, acc⟩ ⟨hin, hq, hac, hfR⟩
    simp only at hin hq hac hfR ⊢
    refine J_seq ?_
    refine J_seq ?_
    refine J_region ?_
    refine L_v rfl rfl rfl (V_move rfl rfl) ?_
    refine L_v rfl rfl rfl (V_fieldAddr rfl rfl Try.underlying30 rfl sz27rr rfl) ?_
    refine L_v rfl rfl rfl (V_load1 0 rfl rfl rfl Try.underlying27 rfl (by rfl)) ?_
    refine L_v rfl rfl rfl (V_len rfl rfl Try.underlying27 rfl) ?_
    refine L_v rfl rfl rfl (V_lss rfl rfl rfl (by first | exact decide_eq_true (by omega) | exact decide_eq_false (by omega) | rfl)) ?_
    refine L_nil ?_
    change J _ _ _ _
    refine J_cond rfl (fun h2 => ?_) (fun h2 => ?_)
    ·
      first | (have h2 := of_decide_eq_true h2) | (have h2 := of_decide_eq_false h2) | skip
      have hi : i < S.es.length := by omega
      refine J_skip ?_
      change J _ _ _ _
      refine J_seq ?_
      refine J_block ?_
      refine J_region ?_
      refine L_v rfl rfl rfl (V_move rfl rfl) ?_
      refine L_v rfl rfl rfl (V_fieldAddr rfl rfl Try.underlying30 rfl sz27rr rfl) ?_
      refine L_v rfl rfl rfl (V_load1 0 rfl rfl rfl Try.underlying27 rfl (by rfl)) ?_
      refine L_v rfl rfl rfl (V_move rfl rfl) ?_
      refine L_v rfl rfl rfl (V_indexC rfl rfl rfl Try.underlying27 sz39rr (fun w hw => (hw.fa 0 rfl).r.l.l.1) (by omega) (by omega)) ?_
      refine L_v rfl rfl rfl (V_loadCN (vs := enX ((S.es.getD i env0).1) ((S.es.getD i env0).2.1) ((S.es.getD i env0).2.2)) rfl rfl Try.underlying39 rfl (szd sz39rr (by kernel_rfl)) (fun w hw => (hw.fa 0 rfl).r.l.l.1) (by exact Nat.zero_lt_succ _) (rows_v (f := enW) env0 (sz := 42) (fun _ => rfl) (by omega))) ?_
      refine L_call rfl rfl rfl rfl tx17rr (fun w1 hw => (ownEntry_w (S.es.getD i env0).1 _ _ w1 ((hw.fa 0 rfl).r.l.r.of (List.mem_map.2 ⟨_, getD_mem hi, rfl⟩)) (hz.2.1 _ (getD_mem hi))).mono ?_)
      rintro e w' ⟨s4, s5, rfl, hfr, hn3⟩
      have n3 : ∀ k, (rcA ((eR (S.es.getD i env0).1, s4, s5, spN, spN) : RcV)).fp k → w.heap.size ≤ k := fun k hk => Nat.le_trans hw.fr.size (hn3.new k (rce_fp k hk))
      refine ⟨_, _, _, rfl, (hw.newN hfr hn3).deriv (f := rcA ((eR (S.es.getD i env0).1, s4, s5, spN, spN) : RcV)) (FA.and hn3.fa clA_0 : FA _ _).1 (fun k hk => ⟨_, List.mem_append_right _ (List.mem_singleton.2 rfl), rce_fp k hk⟩), rfl, ?_⟩
      refine L_v rfl rfl rfl (V_buildE (v := .agg (rcW ((eR (S.es.getD i env0).1, s4, s5, spN, spN) : RcV)).toArray) rfl rfl (fun w => by kernel_rfl)) ?_
      refine L_buildSlice (vs := [(0, .agg (rcW ((eR (S.es.getD i env0).1, s4, s5, spN, spN) : RcV)).toArray)]) (l := rcW ((eR (S.es.getD i env0).1, s4, s5, spN, spN) : RcV)) rfl rfl rfl rfl rfl (bsR _) (fun b9 => ?_)
      refine L_appN [(b0, row 30 (svX S s s3))] [(b9, row 45 (rcW ((eR (S.es.getD i env0).1, s4, s5, spN, spN) : RcV)))] q (acc.map rcW).flatten (n := offN S.sn + i) (m := 1) (n' := offN S.sn + (i + 1)) (news := rcW ((eR (S.es.getD i env0).1, s4, s5, spN, spN) : RcV)) (ks' := (acc.map rcW).flatten ++ rcW ((eR (S.es.getD i env0).1, s4, s5, spN, spN) : RcV)) rfl rfl rfl rfl rfl Try.underlying74 elR (List.append_assoc _ _ _) hq (fun w1 hw => src_C Try.underlying74 (SlC.in (ks := rcW ((eR (S.es.getD i env0).1, s4, s5, spN, spN) : RcV)) (r := []) (fz := (0, 0)) hw (List.mem_append_right _ (List.mem_singleton.2 rfl)) rfl 1) (all_one (by kernel_rfl))) (by omega) rfl (by omega) (by omega) (fun q4 hq4 => ?_)
      refine L_v rfl rfl rfl (V_assign rfl rfl) ?_
      refine L_nil ?_
      change J _ _ _ _
      refine J_region ?_
      refine L_v rfl rfl rfl (V_move rfl rfl) ?_
      refine L_v rfl rfl rfl (V_add rfl rfl rfl (by first | exact Go.IntWalk.i64_in _ (by omega) | rfl)) ?_
      refine L_v rfl rfl rfl (V_assign rfl rfl) ?_
      refine L_nil ?_
      exact ⟨(i + 1, q4, acc ++ [((eR (S.es.getD i env0).1, s4, s5, spN, spN) : RcV)]), ⟨by show i + 1 ≤ S.es.length; omega, by show OwnC 149 q4 (offN S.sn + (i + 1)) ((acc ++ [_]).map rcW).flatten; rw [← rcW_app]; exact hq4, by show (acc ++ [_]).map Prod.fst = (RS S).take (offN S.sn + (i + 1)); rw [RS_e hi, List.map_append, hac]; rfl, new_app hfR (n3)⟩, by show S.es.length - (i + 1) < S.es.length - i; omega, ⟨rfl, rfl, rfl, trivial⟩, (by show List.Sublist ([(b0, row 30 (svX S s s3))] ++ ownM 45 q4 ((acc ++ [((eR (S.es.getD i env0).1, s4, s5, spN, spN) : RcV)]).map rcW).flatten) _; rw [← rcW_app]; exact List.Sublist.cons_cons _ (List.sublist_append_left _ _)), factsR_app (fun f hf => List.mem_append_left _ (List.mem_append_left _ hf)) (List.mem_append_right _ (List.mem_singleton.2 rfl)), rfl⟩
    ·
      first | (have h2 := of_decide_eq_true h2) | (have h2 := of_decide_eq_false h2) | skip
      obtain rfl : i = S.es.length := by omega
      refine J_exit ?_
      change J _ _ _ _
      refine J_seq ?_
      refine J_seq ?_
      refine J_region ?_
      refine L_v rfl rfl rfl (V_assign rfl rfl) ?_
      refine L_nil ?_
      change J _ _ _ _
      refine J_block ?_
      refine J_loop (X := Nat × OwnR × List RcV) (fun x => { env := [(1, .pointer (some ⟨b0, 0, none⟩)), (3, ownV x.2.1 (offN S.sn + S.es.length + x.1)), (5, .int .i64 (x.1 : Int))], mem := [(b0, row 30 (svX S s s3))] ++ ownM 45 x.2.1 (x.2.2.map rcW).flatten, facts := [svF S s s3] ++ x.2.2.map rcA }) (fun x => x.1 ≤ S.gl.length ∧ OwnC 149 x.2.1 (offN S.sn + S.es.length + x.1) (x.2.2.map rcW).flatten ∧ x.2.2.map Prod.fst = (RS S).take (offN S.sn + S.es.length + x.1) ∧ ∀ f ∈ x.2.2.map rcA, ∀ k, f.fp k → w.heap.size ≤ k) (fun x => S.gl.length - x.1) (0, q, acc) ⟨Nat.zero_le _, hq, hac, hfR⟩ ⟨⟨rfl, rfl, rfl, trivial⟩, List.Sublist.refl _, fun f hf => hf, rfl⟩ ?_
      rintro ⟨i, q, acc⟩ ⟨hin, hq, hac, hfR⟩
      simp only at hin hq hac hfR ⊢
      refine J_seq ?_
      refine J_seq ?_
      refine J_region ?_
      refine L_v rfl rfl rfl (V_move rfl rfl) ?_
      refine L_v rfl rfl rfl (V_fieldAddr rfl rfl Try.underlying30 rfl sz28rr rfl) ?_
      refine L_v rfl rfl rfl (V_load1 0 rfl rfl rfl Try.underlying28 rfl (by rfl)) ?_
      refine L_v rfl rfl rfl (V_len rfl rfl Try.underlying28 rfl) ?_
      refine L_v rfl rfl rfl (V_lss rfl rfl rfl (by first | exact decide_eq_true (by omega) | exact decide_eq_false (by omega) | rfl)) ?_
      refine L_nil ?_
      change J _ _ _ _
      refine J_cond rfl (fun h3 => ?_) (fun h3 => ?_)
      ·
        first | (have h3 := of_decide_eq_true h3) | (have h3 := of_decide_eq_false h3) | skip
        have hi : i < S.gl.length := by omega
        refine J_deriv (rcA ((gR (S.gl.getD i sg0), spN, spN, spN, spN) : RcV)) (fun w _ => (rc_none rfl rfl).1 w) (fun k hk => absurd hk ((rc_none rfl rfl).2 k)) ?_
        refine J_skip ?_
        change J _ _ _ _
        refine J_seq ?_
        refine J_block ?_
        refine J_region ?_
        refine L_v rfl rfl rfl (V_move rfl rfl) ?_
        refine L_v rfl rfl rfl (V_fieldAddr rfl rfl Try.underlying30 rfl sz28rr rfl) ?_
        refine L_v rfl rfl rfl (V_load1 0 rfl rfl rfl Try.underlying28 rfl (by rfl)) ?_
        refine L_v rfl rfl rfl (V_move rfl rfl) ?_
        refine L_v rfl rfl rfl (V_indexC rfl rfl rfl Try.underlying28 sz43rr (fun w hw => (hw.fa 0 rfl).r.r.1) (by omega) (by omega)) ?_
        refine L_v rfl rfl rfl (V_loadCN (vs := sgV (S.gl.getD i sg0)) rfl rfl Try.underlying43 rfl (szd sz43rr (by kernel_rfl)) (fun w hw => (hw.fa 0 rfl).r.r.1) (by exact Nat.zero_lt_succ _) (rows_v (f := sgV) sg0 (sz := 96) (fun _ => rfl) (by omega))) ?_
        refine L_v rfl rfl rfl (V_buildE (v := .agg (rcW ((gR (S.gl.getD i sg0), spN, spN, spN, spN) : RcV)).toArray) rfl rfl (fun w => by kernel_rfl)) ?_
        refine L_buildSlice (vs := [(0, .agg (rcW ((gR (S.gl.getD i sg0), spN, spN, spN, spN) : RcV)).toArray)]) (l := rcW ((gR (S.gl.getD i sg0), spN, spN, spN, spN) : RcV)) rfl rfl rfl rfl rfl (bsR _) (fun b9 => ?_)
        refine L_appN [(b0, row 30 (svX S s s3))] [(b9, row 45 (rcW ((gR (S.gl.getD i sg0), spN, spN, spN, spN) : RcV)))] q (acc.map rcW).flatten (n := offN S.sn + S.es.length + i) (m := 1) (n' := offN S.sn + S.es.length + (i + 1)) (news := rcW ((gR (S.gl.getD i sg0), spN, spN, spN, spN) : RcV)) (ks' := (acc.map rcW).flatten ++ rcW ((gR (S.gl.getD i sg0), spN, spN, spN, spN) : RcV)) rfl rfl rfl rfl rfl Try.underlying74 elR (List.append_assoc _ _ _) hq (fun w1 hw => src_C Try.underlying74 (SlC.in (ks := rcW ((gR (S.gl.getD i sg0), spN, spN, spN, spN) : RcV)) (r := []) (fz := (0, 0)) hw (List.mem_append_right _ (List.mem_singleton.2 rfl)) rfl 1) (all_one (by kernel_rfl))) (by omega) rfl (by omega) (by omega) (fun q4 hq4 => ?_)
        refine L_v rfl rfl rfl (V_assign rfl rfl) ?_
        refine L_nil ?_
        change J _ _ _ _
        refine J_region ?_
        refine L_v rfl rfl rfl (V_move rfl rfl) ?_
        refine L_v rfl rfl rfl (V_add rfl rfl rfl (by first | exact Go.IntWalk.i64_in _ (by omega) | rfl)) ?_
        refine L_v rfl rfl rfl (V_assign rfl rfl) ?_
        refine L_nil ?_
        exact ⟨(i + 1, q4, acc ++ [((gR (S.gl.getD i sg0), spN, spN, spN, spN) : RcV)]), ⟨by show i + 1 ≤ S.gl.length; omega, by show OwnC 149 q4 (offN S.sn + S.es.length + (i + 1)) ((acc ++ [_]).map rcW).flatten; rw [← rcW_app]; exact hq4, by show (acc ++ [_]).map Prod.fst = (RS S).take (offN S.sn + S.es.length + (i + 1)); rw [RS_g hi, List.map_append, hac]; rfl, new_app hfR (fun k hk => absurd hk ((rc_none rfl rfl).2 k))⟩, by show S.gl.length - (i + 1) < S.gl.length - i; omega, ⟨rfl, rfl, rfl, trivial⟩, (by show List.Sublist ([(b0, row 30 (svX S s s3))] ++ ownM 45 q4 ((acc ++ [((gR (S.gl.getD i sg0), spN, spN, spN, spN) : RcV)]).map rcW).flatten) _; rw [← rcW_app]; exact List.Sublist.cons_cons _ (List.sublist_append_left _ _)), factsR_app (fun f hf => List.mem_append_left _ hf) (List.mem_append_right _ (List.mem_singleton.2 rfl)), rfl⟩
      ·
        first | (have h3 := of_decide_eq_true h3) | (have h3 := of_decide_eq_false h3) | skip
        obtain rfl : i = S.gl.length := by omega
        refine J_exit ?_
        change J _ _ _ _
        refine J_seq ?_
        refine J_region ?_
        refine L_v rfl rfl rfl (V_move rfl rfl) ?_
        refine L_v rfl rfl rfl (V_assign rfl rfl) ?_
        refine L_nil ?_
        change J _ _ _ _
        refine J_ret ?_
        change Kret _ _ _ Exit.ret _
        refine ret1 rfl rfl (RV_t rfl) ?_
        rw [← RS_len, List.take_length] at hac
        exact fun w' h => ⟨acc, (oA q, oC q), hac, rfl, h.fr, NewF.and (NewF.own (T := 45) h rfl (fun x hx => List.mem_append_right _ hx) hq) (.all fun f hf => ⟨⟨(h.facts f (List.mem_append_right _ hf)).1, fun k hk => ((h.facts f (List.mem_append_right _ hf)).2 k hk).1⟩, hfR f hf⟩)⟩

end Go.Proofs.Ytcdenfkbhefbbaa
