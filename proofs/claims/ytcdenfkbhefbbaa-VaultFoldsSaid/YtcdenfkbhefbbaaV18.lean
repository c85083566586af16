/- What VaultFolds asks: Own and Fold as a law sees them; the places of what came out. -/
import Derived.Test.YtcdenfkbhefbbaaV17
import Derived.Test.YtcdenfkbhefbbaaSx19
set_option linter.unusedVariables false
set_option linter.unusedSimpArgs false
set_option maxRecDepth 100000
namespace Go.Proofs.Ytcdenfkbhefbbaa
open Go.Sx
theorem szV_fold {s : Sv} {r : Rec} (h : SzV s) (hB : SzC r.2.2.2.1.2.2.2.2 ∧ SzC r.2.2.2.2.2.1.2.2.1) (hi : -9223372036854775808 ≤ r.2.2.2.1.1 ∧ r.2.2.2.1.1 ≤ 9223372036854775807) (h1 : s.ents.length ≤ 400) (h2 : s.sgs.length ≤ 400) : SzV (foldS s r) := by
  obtain ⟨a, b, c, d, e⟩ := h
  unfold foldS
  split
  · exact ⟨a, b, c, d, e⟩
  · split
    · refine ⟨a, fun x hx => ?_, by show (s.ents ++ [r.2.2.2.1]).length ≤ _; rw [List.length_append, List.length_singleton]; omega, d, fun x hx => ?_⟩
      · rcases List.mem_append.1 (show x ∈ s.ents ++ [r.2.2.2.1] from hx) with h | h
        · exact b x h
        · obtain rfl := List.mem_singleton.1 h
          exact hB.1
      · rcases List.mem_append.1 (show x ∈ s.ents ++ [r.2.2.2.1] from hx) with h | h
        · exact e x h
        · obtain rfl := List.mem_singleton.1 h
          exact hi
    · split
      · exact ⟨a, fun x hx => b x (List.mem_of_mem_take (show x ∈ s.ents.take _ from hx)), by show (s.ents.take _).length ≤ _; rw [List.length_take]; omega, d, fun x hx => e x (List.mem_of_mem_take (show x ∈ s.ents.take _ from hx))⟩
      · split
        · exact ⟨hB.2, fun x hx => b x (List.mem_of_mem_drop (show x ∈ s.ents.drop _ from hx)), by show (s.ents.drop _).length ≤ _; rw [List.length_drop]; omega, d, fun x hx => e x (List.mem_of_mem_drop (show x ∈ s.ents.drop _ from hx))⟩
        · exact ⟨a, b, c, by show (s.sgs ++ [r.2.2.2.2.2.2]).length ≤ _; rw [List.length_append, List.length_singleton]; omega, e⟩
theorem szB_V {S : SvS} (h : SzV S.sv) : SzB S := by
  obtain ⟨a, b, c, d, e⟩ := h.S
  exact ⟨a, b, by omega, by omega, e⟩
theorem szB_fold {S S' : SvS} {r : Rec} (h : SzV S.sv) (hB : SzC r.2.2.2.1.2.2.2.2 ∧ SzC r.2.2.2.2.2.1.2.2.1) (hi : -9223372036854775808 ≤ r.2.2.2.1.1 ∧ r.2.2.2.1.1 ≤ 9223372036854775807) (h1 : S.es.length ≤ 400) (h2 : S.gl.length ≤ 400) (hv : S'.sv = foldV S.sv r) : SzB S' := by
  refine szB_V ?_
  rw [hv]
  unfold foldV
  split
  · exact szV_fold h hB hi (by rw [svEnts]; exact h1) h2
  · exact sz_of rfl rfl (by decide) (by decide)
theorem rown_f (S : SvS) (s s3 : Sp) (w : World) (f1 : FA w (svF S s s3)) (hz : SzB S) (hE : S.es.length ≤ 549755813888) (hG : S.gl.length ≤ 549755813888) : Calls Try.prog 7 #[.agg (svX S s s3).toArray] w fun e w' =>
    ∃ (O : SvS) (s' u' : Sp), e = .returned (.agg (svX O s' u').toArray) ∧ Fr [] w w' ∧ NewF w w' (svF O s' u') ∧ O.sv = S.sv := by
  refine (rown_w S s s3 w f1 hz hE hG).mono ?_
  rintro e w' ⟨s1, s2, q1, q3, gs, hgs, rfl, hfr, hq1, hq3, hn⟩
  refine ⟨{ S with a := s1, b := s2, es := gs }, (pA q1, pC q1), (pA q3, pC q3), rfl, hfr, ?_, by unfold SvS.sv; rw [hgs]⟩
  exact (hn.fa _ (List.mem_cons_self ..)).and (NewF.and (NewF.and (hq1.newF fun g o h => hn.at_ g o (List.mem_append_left _ h)) (hn.fa _ (List.mem_cons_of_mem _ (List.mem_cons_self ..)))) (hq3.newF fun g o h => hn.at_ g o (List.mem_append_right _ h)))
theorem clT0n {w w' : World} : NewF w w' (clT 3 sn0.2.2.1 spN spN) := ⟨⟨⟨⟨.inl ⟨rfl, rfl, _, _, rfl⟩, fun _ => rfl⟩, ⟨.inl ⟨rfl, rfl, _, _, rfl⟩, fun _ => rfl⟩⟩, fun k hk => by
  rcases hk with h | h
  · exact absurd rfl h.1
  · exact absurd rfl h.1⟩, fun k hk => by
  rcases hk with h | h
  · exact absurd rfl h.1
  · exact absurd rfl h.1⟩
theorem all0n {w w' : World} : NewF w w' (allF []) := ⟨⟨fun f hf => (nomatch hf), fun k ⟨f, hf, _⟩ => (nomatch hf)⟩, fun k ⟨f, hf, _⟩ => (nomatch hf)⟩
theorem fold_u (S : SvS) (s s3 : Sp) (r : Rec) (ra rb rc rd : Sp) (w : World) (f1 : FA w (svF S s s3)) (f2 : FA w (rcA (r, ra, rb, rc, rd))) (hz : SzV S.sv) (hB : SzC r.2.2.2.1.2.2.2.2 ∧ SzC r.2.2.2.2.2.1.2.2.1) : Calls Try.prog 9 #[.agg (svX S s s3).toArray, .agg (recX r ra rb rc rd).toArray] w fun e w' =>
    ∃ (S' : SvS) (q1 q3 : OwnP), e = .returned (.tuple #[.agg (svR S' q1 q3).toArray, .int .i64 (foldQ S.sv r)]) ∧ S'.sv = foldV S.sv r ∧ PC 43 q1 S'.es.length (keS S') ∧ PC 97 q3 S'.gl.length (kgS S') ∧
      Upd [] w w' (pM 39 q1 (keS S') ++ pM 43 q3 (kgS S')) [clT 3 S'.sn.2.2.1 S'.a S'.b, allF (S'.es.map (enT 3))] := by
  refine (fold_w S s s3 r ra rb rc rd w f1 f2 hz.S hB).mono ?_
  rintro e w' (⟨hk, rfl, hfr⟩ | ⟨hk, S', q1, q3, rfl, hS, hq1, hq3, hU⟩)
  · rw [foldK_Q] at hk ⊢
    refine ⟨SS0, none, none, rfl, ?_, ⟨rfl, rfl⟩, ⟨rfl, rfl⟩, NewL.upd hfr ⟨fun g o h => (nomatch h), List.nodup_nil, fun f hf => ?_, fun f hf k hk => (nomatch ·)⟩⟩
    · unfold foldV
      rw [if_neg hk]
      rfl
    · rcases List.mem_cons.1 hf with rfl | hf
      · exact clT0n
      · obtain rfl := List.mem_singleton.1 hf
        exact all0n
  · have hk2 : foldQ S.sv r = 0 := (foldK_Q S r).symm.trans hk
    refine ⟨S', q1, q3, by rw [hk2], ?_, hq1, hq3, hU⟩
    unfold foldV
    rw [if_pos hk2, hS]
theorem szB_sv {S O : SvS} (hz : SzB S) (h : O.sv = S.sv) : SzB O := by
  obtain ⟨a, b, c, d, e⟩ := hz
  have h1 : O.sn = S.sn := congrArg Sv.snap h
  have h2 : O.es.map Prod.fst = S.es.map Prod.fst := congrArg Sv.ents h
  have h3 : O.gl = S.gl := congrArg Sv.sgs h
  have h4 : O.es.length = S.es.length := by have := congrArg List.length h2; simpa using this
  have h5 : ∀ p ∈ O.es, ∃ p' ∈ S.es, p'.1 = p.1 := fun p hp => by
    have h6 : p.1 ∈ S.es.map Prod.fst := h2 ▸ List.mem_map.2 ⟨p, hp, rfl⟩
    exact List.mem_map.1 h6
  refine ⟨h1 ▸ a, fun p hp => ?_, h4 ▸ c, h3 ▸ d, fun p hp => ?_⟩
  · obtain ⟨p', hp', e1⟩ := h5 p hp
    exact e1 ▸ b p' hp'
  · obtain ⟨p', hp', e1⟩ := h5 p hp
    exact e1 ▸ e p' hp'
/-! ### The places of what came out -/
def xM (S : SvS) (q1 q3 : OwnP) : Mem := pM 39 q1 (keS S) ++ pM 43 q3 (kgS S)
def xG (S : SvS) : List Fact := [clT 3 S.sn.2.2.1 S.a S.b, allF (S.es.map (enT 3))]
def xD (S : SvS) (q1 q3 : OwnP) (k : Nat) : Prop := k ∈ (xM S q1 q3).map (·.1) ∨ ∃ f ∈ xG S, f.fp k
theorem factT_row {T : TypeId} {sz n : Nat} {v : Value} {ks : List Value} {w : World} (h : (factT T sz v n ks).p w) {k : Nat} (hk : (factT T sz v n ks).fp k) : ∃ (T : TypeId) (l : List Value), w.heap[k]? = some (row T l) := by
  obtain ⟨hne, off, c, rfl⟩ := hk
  rcases h.1 with h1 | ⟨g, pre, r, c', e, _, hg⟩
  · exact absurd h1.2.1 hne
  · injection e with e1 e2 e3
    injection e1 with e1
    injection e1 with e4 e5 e6
    exact ⟨T, _, e4 ▸ hg⟩
theorem clT_row {I : TypeId} {x : Cl} {a b : Sp} {w : World} (h : (clT I x a b).p w) {k : Nat} (hk : (clT I x a b).fp k) : ∃ (T : TypeId) (l : List Value), w.heap[k]? = some (row T l) := hk.elim (factT_row h.1) (factT_row h.2)
theorem pM_row {e : TypeId} {q : OwnP} {ks : List Value} {g : Nat} {o : Obj} (h : (g, o) ∈ pM e q ks) : ∃ (T : TypeId) (l : List Value), o = row T l := by
  rcases q with _ | ⟨b, pre, c, r⟩
  · cases h
  · injection List.mem_singleton.1 h with h1 h2
    exact ⟨e, _, h2⟩
theorem xD_row {cx : Cx} {m1 : Mem} {fs : List Fact} {S : SvS} {q1 q3 : OwnP} {w : World} (h : OkW cx (m1 ++ xM S q1 q3) (fs ++ xG S) w) : ∀ b, xD S q1 q3 b → ∃ (T : TypeId) (l : List Value), w.heap[b]? = some (row T l) := by
  rintro b (hb | ⟨f, hf, hb⟩)
  · obtain ⟨⟨g, o⟩, hg, rfl⟩ := List.mem_map.1 hb
    obtain ⟨T, l, rfl⟩ : ∃ T l, o = row T l := (List.mem_append.1 hg).elim pM_row pM_row
    exact ⟨T, l, h.mem g _ (List.mem_append_right _ hg)⟩
  · have hp := (h.facts f (List.mem_append_right _ hf)).1
    rcases List.mem_cons.1 hf with rfl | hf
    · exact clT_row hp hb
    · obtain rfl := List.mem_singleton.1 hf
      obtain ⟨g, hg, hk⟩ := hb
      have hp := hp g hg
      obtain ⟨p, _, rfl⟩ := List.mem_map.1 hg
      exact clT_row hp hk
structure XW (S : SvS) (q1 q3 : OwnP) (w1 : World) : Prop where
  en : ∀ i, i < S.es.length → ∃ g o, pA q1 = some ⟨g, o, none⟩ ∧ xD S q1 q3 g ∧ ∀ k u, (enW (S.es.getD i env0))[k]? = some u → w1.cell? ⟨g, o + (i * 43 + k), none⟩ = some u
  sg : ∀ i, i < S.gl.length → ∃ g o, pA q3 = some ⟨g, o, none⟩ ∧ xD S q1 q3 g ∧ ∀ k u, (sgV (S.gl.getD i sg0))[k]? = some u → w1.cell? ⟨g, o + (i * 97 + k), none⟩ = some u
  vo : ∀ i, i < S.es.length → ∀ k, k < (S.es.getD i env0).1.2.2.2.2.1.length → ∃ (g o : Nat) (j : Int), (S.es.getD i env0).2.1.1 = some ⟨g, o, none⟩ ∧ xD S q1 q3 g ∧ w1.cell? ⟨g, o + k, none⟩ = some (.int .i64 j)
  sn : ∀ k, k < S.sn.2.2.1.1.length → ∃ (g o : Nat) (j : Int), S.a.1 = some ⟨g, o, none⟩ ∧ xD S q1 q3 g ∧ w1.cell? ⟨g, o + k, none⟩ = some (.int .i64 j)
theorem pM_D {e : TypeId} {q : OwnP} {ks : List Value} {g o : Nat} (h : pA q = some ⟨g, o, none⟩) : g ∈ (pM e q ks).map (·.1) := by
  rcases q with _ | ⟨b, pre, c, r⟩
  · cases h
  · injection h with h
    injection h with h1
    exact List.mem_singleton.2 h1.symm
theorem vo_at {I : TypeId} {x : Cl} {a b : Sp} {w : World} (h : (clT I x a b).p w) {k : Nat} (hk : k < x.1.length) : ∃ (g o : Nat) (j : Int), a.1 = some ⟨g, o, none⟩ ∧ (clT I x a b).fp g ∧ w.cell? ⟨g, o + k, none⟩ = some (.int .i64 j) := by
  obtain ⟨g, o, ha, hc⟩ := h.1.1.toC.elem hk
  refine ⟨g, o, x.1[k], ha, .inl ⟨fun e => ?_, o, a.2, by rw [ha]⟩, hc k _ ?_⟩
  · have h9 := congrArg List.length e
    rw [show (ints x.1).length = x.1.length from List.length_map ..] at h9
    have h8 : x.1.length = 0 := h9
    omega
  · show (x.1.map (Value.int .i64))[k]? = _
    rw [List.getElem?_map, List.getElem?_eq_getElem hk]
    rfl
theorem xw_of {cx : Cx} {m1 : Mem} {fs : List Fact} {S : SvS} {q1 q3 : OwnP} {w : World} (h : OkW cx (m1 ++ xM S q1 q3) (fs ++ xG S) w) (hq1 : PC 43 q1 S.es.length (keS S)) (hq3 : PC 97 q3 S.gl.length (kgS S)) : XW S q1 q3 w where
  en i hi := by
    obtain ⟨g, o, ha, hc⟩ := SlC.elem (hq1.slC h (fun p hp => List.mem_append_right _ (List.mem_append_left _ hp))) hi
    refine ⟨g, o, ha, .inl ?_, fun k u hk => hc _ u ?_⟩
    · rw [xM, List.map_append]
      exact List.mem_append_left _ (pM_D ha)
    · have := rows_v (f := enW) env0 (sz := 42) (fun _ => rfl) hi k u hk
      rwa [Int.toNat_natCast] at this
  sg i hi := by
    obtain ⟨g, o, ha, hc⟩ := SlC.elem (hq3.slC h (fun p hp => List.mem_append_right _ (List.mem_append_right _ hp))) hi
    refine ⟨g, o, ha, .inl ?_, fun k u hk => hc _ u ?_⟩
    · rw [xM, List.map_append]
      exact List.mem_append_right _ (pM_D ha)
    · have := rows_v (f := sgV) sg0 (sz := 96) (fun _ => rfl) hi k u hk
      rwa [Int.toNat_natCast] at this
  vo i hi k hk := by
    have hp := (h.facts (allF (S.es.map (enT 3))) (List.mem_append_right _ (List.mem_cons_of_mem _ (List.mem_cons_self ..)))).1
    have hin : enT 3 (S.es.getD i env0) ∈ S.es.map (enT 3) := List.mem_map.2 ⟨_, getD_mem hi, rfl⟩
    obtain ⟨g, o, j, ha, hf, hc⟩ := vo_at (hp _ hin) hk
    exact ⟨g, o, j, ha, .inr ⟨_, List.mem_cons_of_mem _ (List.mem_cons_self ..), _, hin, hf⟩, hc⟩
  sn k hk := by
    have hp := (h.facts (clT 3 S.sn.2.2.1 S.a S.b) (List.mem_append_right _ (List.mem_cons_self ..))).1
    obtain ⟨g, o, j, ha, hf, hc⟩ := vo_at hp hk
    exact ⟨g, o, j, ha, .inr ⟨_, List.mem_cons_self .., hf⟩, hc⟩
theorem chk_same {S O : SvS} (h : O.sv = S.sv) : decide (decide (chkN S.t S.v S.sn S.es S.gl = 0) = decide (RightS O.sv)) = true := by
  rw [decide_eq_true_eq, decide_eq_decide, h]
  exact chk_right



end Go.Proofs.Ytcdenfkbhefbbaa
