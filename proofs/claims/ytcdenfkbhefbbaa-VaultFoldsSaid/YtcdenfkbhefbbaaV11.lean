/- A record makes of what is saved. -/
import Derived.Test.YtcdenfkbhefbbaaV10
set_option linter.unusedVariables false
set_option linter.unusedSimpArgs false
set_option maxRecDepth 100000
namespace Go.Proofs.Ytcdenfkbhefbbaa
open Go.Sx
abbrev svX (S : SvS) (s s3 : Sp) : List Value := svC S.t S.v S.sn S.a S.b (.slice s.1 S.es.length s.2) (.slice s3.1 S.gl.length s3.2)
/-- What is known of what is saved. -/
def svF (S : SvS) (s s3 : Sp) : Fact := andF (clA S.sn.2.2.1 S.a S.b) (andF (esA S.es s) (sgA S.gl s3))
def SzS (S : SvS) : Prop := SzC S.sn.2.2.1 ∧ (∀ p ∈ S.es, SzC p.1.2.2.2.2) ∧ S.es.length ≤ 549755813888 ∧ S.gl.length ≤ 549755813888 ∧ ∀ p ∈ S.es, -9223372036854775808 ≤ p.1.1 ∧ p.1.1 ≤ 9223372036854775807
def SS0 : SvS := ⟨0, 0, sn0, spN, spN, [], []⟩
instance (S : SvS) : Decidable (RightS S.sv) := decidable_of_iff _ (chk_right (t := S.t) (v := S.v) (sn := S.sn) (es := S.es) (gl := S.gl))
theorem own_p (S : SvS) (s s3 : Sp) (w : World) (f1 : FA w (svF S s s3)) (hz : SzS S) : Calls Try.prog 22 #[.agg (svX S s s3).toArray] w fun e w' =>
    ∃ (s1 s2 : Sp) (q1 q3 : OwnP) (gs : List EnV), gs.map Prod.fst = S.es.map Prod.fst ∧ e = .returned (.agg (svR { S with a := s1, b := s2, es := gs } q1 q3).toArray) ∧ Fr [] w w' ∧ PC 43 q1 gs.length (gs.map enW).flatten ∧ PC 97 q3 S.gl.length (kgS S) ∧
      NewL w w' (pM 39 q1 (gs.map enW).flatten ++ pM 43 q3 (kgS S)) [clT 3 S.sn.2.2.1 s1 s2, allF (gs.map (enT 3))] := by
  refine (own_w S.t S.v S.sn S.a S.b S.es s S.gl s3 w f1.l f1.r.l f1.r.r hz.1 hz.2.1 hz.2.2.1 hz.2.2.2.1).mono ?_
  rintro e w' ⟨s1, s2, q1, q3, gs, rfl, hgs, hfr, hq1, hq3, hn⟩
  have hl : gs.length = S.es.length := by have := congrArg List.length hgs; simpa using this
  refine ⟨s1, s2, ofR q1, ofR q3, gs, hgs, ?_, hfr, ofR_C (hl ▸ hq1), ofR_C hq3, by rw [ofR_M, ofR_M]; exact hn⟩
  show _ = Ending.returned (.agg (svC S.t S.v S.sn s1 s2 (pV (ofR q1) gs.length) (pV (ofR q3) S.gl.length)).toArray)
  rw [ofR_V, ofR_V, hl]
/-- What Fold answers. -/
def foldK (S : SvS) (r : Rec) : Int := if RightS S.sv then adE S.sv r else 1
theorem foldK_1 {S : SvS} {r : Rec} (h : chkN S.t S.v S.sn S.es S.gl ≠ 0) : foldK S r = 1 ∧ chkN S.t S.v S.sn S.es S.gl = 1 := by
  refine ⟨if_neg fun h1 => h (chk_right.2 h1), ?_⟩
  unfold chkN at h ⊢
  split
  · rename_i h1
    rw [if_pos h1] at h
    exact absurd rfl h
  · rfl
theorem foldK_0 {S : SvS} {r : Rec} (h : chkN S.t S.v S.sn S.es S.gl = 0) : foldK S r = adE S.sv r := if_pos (chk_right.1 h)
/-- The strong answer: the rows are the caller's own. -/
def FoldP (S : SvS) (r : Rec) (w : World) : Ending → World → Prop := fun e w' =>
  (foldK S r ≠ 0 ∧ e = .returned (.tuple #[.agg (svX SS0 spN spN).toArray, .int .i64 (foldK S r)]) ∧ Fr [] w w') ∨
  (foldK S r = 0 ∧ ∃ (S' : SvS) (q1 q3 : OwnP), e = .returned (.tuple #[.agg (svR S' q1 q3).toArray, .int .i64 0]) ∧ S'.sv = foldS S.sv r ∧ PC 43 q1 S'.es.length (keS S') ∧ PC 97 q3 S'.gl.length (kgS S') ∧
    Upd [] w w' (pM 39 q1 (keS S') ++ pM 43 q3 (kgS S')) [clT 3 S'.sn.2.2.1 S'.a S'.b, allF (S'.es.map (enT 3))])
/-- The councils of what came out. -/
theorem adX_new {S : SvS} {r : Rec} {n1 n2 : Sp} (h0 : adE S.sv r = 0) {cx : Cx} {m : Mem} {fs : List Fact} {w : World} (h : OkW cx m fs w) (hin : ∀ f ∈ [clT 3 S.sn.2.2.1 S.a S.b, allF (S.es.map (enT 3))] ++ adG S r n1 n2, f ∈ fs) {N : Nat} (hN : ∀ f ∈ [clT 3 S.sn.2.2.1 S.a S.b, allF (S.es.map (enT 3))] ++ adG S r n1 n2, ∀ k, f.fp k → N ≤ k) :
    OkW cx m (fs ++ [clT 3 (adX S r n1 n2).sn.2.2.1 (adX S r n1 n2).a (adX S r n1 n2).b] ++ [allF ((adX S r n1 n2).es.map (enT 3))]) w ∧
    ∀ f ∈ [clT 3 (adX S r n1 n2).sn.2.2.1 (adX S r n1 n2).a (adX S r n1 n2).b, allF ((adX S r n1 n2).es.map (enT 3))], ∀ k, f.fp k → N ≤ k := by
  have m1 : clT 3 S.sn.2.2.1 S.a S.b ∈ [clT 3 S.sn.2.2.1 S.a S.b, allF (S.es.map (enT 3))] ++ adG S r n1 n2 := by simp
  have m2 : allF (S.es.map (enT 3)) ∈ [clT 3 S.sn.2.2.1 S.a S.b, allF (S.es.map (enT 3))] ++ adG S r n1 n2 := by simp
  have p1 := (h.facts _ (hin _ m1)).1
  have p2 := (h.facts _ (hin _ m2)).1
  have sub : ∀ l : List EnV, (∀ p ∈ l, p ∈ S.es) → (allF (l.map (enT 3))).p w ∧ ∀ k, (allF (l.map (enT 3))).fp k → (allF (S.es.map (enT 3))).fp k := fun l hl =>
    ⟨fun f hf => by
      obtain ⟨p, hp, rfl⟩ := List.mem_map.1 hf
      exact p2 _ (List.mem_map.2 ⟨p, hl p hp, rfl⟩), fun k ⟨f, hf, hk⟩ => by
      obtain ⟨p, hp, rfl⟩ := List.mem_map.1 hf
      exact ⟨_, List.mem_map.2 ⟨p, hl p hp, rfl⟩, hk⟩⟩
  have key : (clT 3 (adX S r n1 n2).sn.2.2.1 (adX S r n1 n2).a (adX S r n1 n2).b).p w ∧ (∀ k, (clT 3 (adX S r n1 n2).sn.2.2.1 (adX S r n1 n2).a (adX S r n1 n2).b).fp k → ∃ g ∈ [clT 3 S.sn.2.2.1 S.a S.b, allF (S.es.map (enT 3))] ++ adG S r n1 n2, g.fp k) ∧
      (allF ((adX S r n1 n2).es.map (enT 3))).p w ∧ ∀ k, (allF ((adX S r n1 n2).es.map (enT 3))).fp k → ∃ g ∈ [clT 3 S.sn.2.2.1 S.a S.b, allF (S.es.map (enT 3))] ++ adG S r n1 n2, g.fp k := by
    by_cases h1 : r.1 = 1
    · rw [adX_1 h0 h1]
      exact ⟨p1, fun k hk => ⟨_, m1, hk⟩, p2, fun k hk => ⟨_, m2, hk⟩⟩
    · by_cases h2 : r.1 = 2
      · have m3 : allF (([(r.2.2.2.1, n1, n2)] : List EnV).map (enT 3)) ∈ [clT 3 S.sn.2.2.1 S.a S.b, allF (S.es.map (enT 3))] ++ adG S r n1 n2 := by rw [adG_2 h0 h2]; simp
        have p3 := (h.facts _ (hin _ m3)).1
        rw [adX_2 h0 h2]
        refine ⟨p1, fun k hk => ⟨_, m1, hk⟩, fun f hf => ?_, fun k ⟨f, hf, hk⟩ => ?_⟩
        · rw [show ({ S with es := S.es ++ [(r.2.2.2.1, n1, n2)] } : SvS).es = S.es ++ [(r.2.2.2.1, n1, n2)] from rfl, List.map_append] at hf
          exact (List.mem_append.1 hf).elim (p2 f) (p3 f)
        · rw [show ({ S with es := S.es ++ [(r.2.2.2.1, n1, n2)] } : SvS).es = S.es ++ [(r.2.2.2.1, n1, n2)] from rfl, List.map_append] at hf
          exact (List.mem_append.1 hf).elim (fun h => ⟨_, m2, _, h, hk⟩) (fun h => ⟨_, m3, _, h, hk⟩)
      · by_cases h3 : r.1 = 3
        · rw [adX_3 h0 h3]
          have := sub (S.es.take (r.2.2.2.2.1 - S.sn.1 - 1).toNat) (fun p hp => List.mem_of_mem_take hp)
          exact ⟨p1, fun k hk => ⟨_, m1, hk⟩, this.1, fun k hk => ⟨_, m2, this.2 k hk⟩⟩
        · by_cases h4 : r.1 = 4
          · have m3 : clT 3 r.2.2.2.2.2.1.2.2.1 n1 n2 ∈ [clT 3 S.sn.2.2.1 S.a S.b, allF (S.es.map (enT 3))] ++ adG S r n1 n2 := by rw [adG_4 h0 h4]; simp
            have p3 := (h.facts _ (hin _ m3)).1
            have := sub (S.es.drop (cutE r.2.2.2.2.2.1 S.es)) (fun p hp => List.mem_of_mem_drop hp)
            rw [adX_4 h0 h4]
            exact ⟨p3, fun k hk => ⟨_, m3, hk⟩, this.1, fun k hk => ⟨_, m2, this.2 k hk⟩⟩
          · have e : adX S r n1 n2 = { S with gl := S.gl ++ [r.2.2.2.2.2.2] } := by unfold adX; rw [if_neg (by rw [h0]; decide), if_neg h1, if_neg h2, if_neg h3, if_neg h4]
            rw [e]
            exact ⟨p1, fun k hk => ⟨_, m1, hk⟩, p2, fun k hk => ⟨_, m2, hk⟩⟩
  refine ⟨(h.deriv key.1 fun k hk => ?_).deriv key.2.2.1 fun k hk => ?_, fun f hf k hk => ?_⟩
  · obtain ⟨g, hg, hk⟩ := key.2.1 k hk
    exact ⟨g, hin g hg, hk⟩
  · obtain ⟨g, hg, hk⟩ := key.2.2.2 k hk
    exact ⟨g, List.mem_append_left _ (hin g hg), hk⟩
  · rcases List.mem_cons.1 hf with rfl | hf
    · obtain ⟨g, hg, hk⟩ := key.2.1 k hk
      exact hN g hg k hk
    · obtain rfl := List.mem_singleton.1 hf
      obtain ⟨g, hg, hk⟩ := key.2.2.2 k hk
      exact hN g hg k hk
theorem sz30fo : (Try.prog.info? 30).map (·.size) = some 9 := by kernel_rfl
theorem sz45fo : (Try.prog.info? 45).map (·.size) = some 149 := by kernel_rfl
theorem tx8fo : Txt Try.prog 8 := txt_of Try.func8 rfl (by kernel_rfl)
theorem tx22fo : Txt Try.prog 22 := txt_of Try.func22 rfl (by kernel_rfl)
theorem tx23fo : Txt Try.prog 23 := txt_of Try.func23 rfl (by kernel_rfl)
theorem z30fo : (Try.prog.info? 30).bind (·.zero) = some (.agg [.int .i64 0, .int .i64 0, .int .i64 0, .int .i64 0, .slice none 0 0, .slice none 0 0, .string ByteArray.empty, .slice none 0 0, .slice none 0 0].toArray) := by kernel_rfl

set_option maxHeartbeats 4000000 in
theorem fold_w (S : SvS) (s s3 : Sp) (r : Rec) (ra rb rc rd : Sp) (w : World) (f1 : FA w (svF S s s3)) (f2 : FA w (rcA (r, ra, rb, rc, rd))) (hz : SzS S) (hB : SzC r.2.2.2.1.2.2.2.2 ∧ SzC r.2.2.2.2.2.1.2.2.1) :
    Calls Try.prog 9 #[.agg (svX S s s3).toArray, .agg (recX r ra rb rc rd).toArray] w fun e w' => FoldP S r w e w' := by
  refine calls_of (args := [.agg (svX S s s3).toArray, .agg (recX r ra rb rc rd).toArray]) ([]) ([]) ([svF S s s3, rcA (r, ra, rb, rc, rd)]) Try.func9 rfl rfl (okFW (.cons f1 (.cons f2 .nil))) ?_
  refine J_seq ?_
  refine J_region ?_
  refine L_box rfl rfl rfl rfl rfl (fun b0 => ?_)
  refine L_box rfl rfl rfl rfl rfl (fun b1 => ?_)
  refine L_alloc rfl rfl rfl rfl z30fo (fun b2 => ?_)
  refine L_v rfl rfl rfl (V_assign rfl rfl) ?_
  refine L_nil ?_
  change J _ _ _ _
  refine J_seq ?_
  refine J_seq ?_
  refine J_region ?_
  refine L_v rfl rfl rfl (V_loadT 0 (vs := svX S s s3) rfl rfl rfl Try.underlying30 rfl sz30fo (by kernel_rfl) (by kernel_rfl)) ?_
  refine L_callV rfl rfl rfl rfl rfl rfl tx8fo (fun w1 hw => check_w S.t S.v S.sn S.a S.b S.es s S.gl s3 w1 (hw.fa 0 rfl).l (hw.fa 0 rfl).r.l (hw.fa 0 rfl).r.r ⟨Nat.le_trans hz.1.1 (by decide), Nat.le_trans hz.1.2 (by decide)⟩ hz.2.2.1 hz.2.2.2.1 hz.2.2.2.2) ?_
  refine L_v rfl rfl rfl (V_assign rfl rfl) ?_
  refine L_nil ?_
  change J _ _ _ _
  refine J_seq ?_
  refine J_region ?_
  refine L_v rfl rfl rfl (V_move rfl rfl) ?_
  refine L_v rfl rfl rfl (V_neq rfl rfl rfl rfl) ?_
  refine L_nil ?_
  change J _ _ _ _
  refine J_cond rfl (fun h1 => ?_) (fun h1 => ?_)
  ·
    first | (have h1 := of_decide_eq_true h1) | (have h1 := of_decide_eq_false h1) | skip
    refine J_seq ?_
    refine J_region ?_
    refine L_v rfl rfl rfl (V_buildE (v := .agg (svX SS0 spN spN).toArray) rfl rfl (fun w => by kernel_rfl)) ?_
    refine L_v rfl rfl rfl (V_move rfl rfl) ?_
    refine L_storeW 2 rfl rfl rfl rfl rfl rfl (szd sz30fo (by kernel_rfl)) (all_one (by kernel_rfl)) (by kernel_rfl) ?_
    refine L_v rfl rfl rfl (V_assign rfl rfl) ?_
    refine L_nil ?_
    change J _ _ _ _
    refine J_ret ?_
    change Kret _ _ _ Exit.ret _
    refine ret2 rfl rfl (RV_c 2 rfl rfl Try.underlying30 rfl (szd sz30fo (by kernel_rfl))) (RV_t rfl) ?_
    have hk := foldK_1 (r := r) h1
    exact fun w' h => .inl ⟨(fun h9 => by rw [hk.1] at h9; cases h9), by rw [hk.1, hk.2]; first | done | rfl, h.fr⟩
  ·
    first | (have h1 := of_decide_eq_true h1) | (have h1 := of_decide_eq_false h1) | skip
    have h1 : chkN S.t S.v S.sn S.es S.gl = 0 := Classical.not_not.1 h1
    have hK : foldK S r = adE S.sv r := foldK_0 h1
    have hR := chk_right.1 h1
    refine J_skip ?_
    change J _ _ _ _
    refine J_seq ?_
    refine J_region ?_
    refine L_v rfl rfl rfl (V_loadT 0 (vs := svX S s s3) rfl rfl rfl Try.underlying30 rfl sz30fo (by kernel_rfl) (by kernel_rfl)) ?_
    refine L_call rfl rfl rfl rfl tx22fo (fun w1 hw => (own_p S s s3 w1 (hw.fa 0 rfl) hz).mono ?_)
    rintro e w' ⟨s1, s2, q1, q3, gs, hgs, rfl, hfr, hq1, hq3, hn⟩
    have hsv : ({ S with a := s1, b := s2, es := gs } : SvS).sv = S.sv := by unfold SvS.sv; rw [hgs]
    have hgl : gs.length = S.es.length := by have := congrArg List.length hgs; simpa using this
    have hS : gs.length ≤ 9000 ∧ S.gl.length ≤ 200 ∧ 0 ≤ S.sn.1 ∧ S.sn.1 ≤ 900000000 := by rw [hgl]; exact base_go hR.1
    have n1 : ∀ f ∈ [clT 3 S.sn.2.2.1 s1 s2, allF (gs.map (enT 3))], ∀ k, f.fp k → w.heap.size ≤ k := fun f hf k hk => Nat.le_trans hw.fr.size ((hn.fa f hf).new k hk)
    refine ⟨_, _, _, rfl, hw.addL hfr hn, rfl, ?_⟩
    refine L_alloc rfl rfl rfl rfl z30fo (fun b3 => ?_)
    refine L_pk ([(b0, row 30 (svX S s s3)), (b1, row 45 (recX r ra rb rc rd)), (b2, row 30 (svX SS0 spN spN))] ++ ((b3, row 30 (svX SS0 spN spN)) :: (pM 39 q1 (gs.map enW).flatten ++ pM 43 q3 (kgS S)))) (Pk.of_perm (l := ([(b0, row 30 (svX S s s3)), (b1, row 45 (recX r ra rb rc rd)), (b2, row 30 (svX SS0 spN spN))] ++ (pM 39 q1 (gs.map enW).flatten ++ pM 43 q3 (kgS S))) ++ [(b3, row 30 (svX SS0 spN spN))]) (by rw [List.append_assoc]; exact List.Perm.append_left _ (List.perm_append_singleton _ _)) (List.Sublist.refl _)) ?_
    refine L_storeW 3 rfl rfl rfl rfl rfl rfl (szd sz30fo (by kernel_rfl)) (all_one (by kernel_rfl)) (by kernel_rfl) ?_
    refine L_nil ?_
    change J _ _ _ _
    refine J_seq ?_
    refine J_seq ?_
    refine J_region ?_
    refine L_v rfl rfl rfl (V_loadT 1 (vs := recX r ra rb rc rd) rfl rfl rfl Try.underlying45 rfl sz45fo (by kernel_rfl) (by kernel_rfl)) ?_
    refine L_call rfl rfl rfl rfl tx23fo (fun w1 hw => (add_w b3 q1 q3 ({ S with a := s1, b := s2, es := gs } : SvS) r ra rb rc rd w1 (hw.memAt (List.sublist_append_right [(b0, row 30 (svX S s s3)), (b1, row 45 (recX r ra rb rc rd)), (b2, row 30 (svX SS0 spN spN))] _)) (fun f hf => by obtain rfl := List.mem_singleton.1 hf; have h9 := hw.facts (rcA (r, ra, rb, rc, rd)) (List.mem_append_left _ (List.mem_cons_of_mem _ (List.mem_cons_self ..))); exact ⟨h9.1, fun k hk => ⟨(h9.2 k hk).1, fun hkm => (h9.2 k hk).2 (((List.sublist_append_right [(b0, row 30 (svX S s s3)), (b1, row 45 (recX r ra rb rc rd)), (b2, row 30 (svX SS0 spN spN))] _).map _).subset hkm)⟩⟩) hq1 hq3 hS hB).mono ?_)
    rintro e w' ⟨n1', n2', q1', q3', rfl, hq1', hq3', hU⟩
    have n9 : ∀ f ∈ adG ({ S with a := s1, b := s2, es := gs } : SvS) r n1' n2', ∀ k, f.fp k → w.heap.size ≤ k := fun f hf k hk => Nat.le_trans hw.fr.size ((hU.fa f hf).new k hk)
    refine ⟨_, _, _, rfl, OkW.upd (m1 := [(b0, row 30 (svX S s s3)), (b1, row 45 (recX r ra rb rc rd)), (b2, row 30 (svX SS0 spN spN))]) hw hU, rfl, ?_⟩
    refine L_v rfl rfl rfl (V_assign rfl rfl) ?_
    refine L_nil ?_
    change J _ _ _ _
    refine J_seq ?_
    refine J_region ?_
    refine L_v rfl rfl rfl (V_move rfl rfl) ?_
    refine L_v rfl rfl rfl (V_neq rfl rfl rfl rfl) ?_
    refine L_nil ?_
    change J _ _ _ _
    refine J_cond rfl (fun h2 => ?_) (fun h2 => ?_)
    ·
      first | (have h2 := of_decide_eq_true h2) | (have h2 := of_decide_eq_false h2) | skip
      refine J_seq ?_
      refine J_region ?_
      refine L_v rfl rfl rfl (V_buildE (v := .agg (svX SS0 spN spN).toArray) rfl rfl (fun w => by kernel_rfl)) ?_
      refine L_v rfl rfl rfl (V_move rfl rfl) ?_
      refine L_storeW 2 rfl rfl rfl rfl rfl rfl (szd sz30fo (by kernel_rfl)) (all_one (by kernel_rfl)) (by kernel_rfl) ?_
      refine L_v rfl rfl rfl (V_assign rfl rfl) ?_
      refine L_nil ?_
      change J _ _ _ _
      refine J_ret ?_
      change Kret _ _ _ Exit.ret _
      refine ret2 rfl rfl (RV_c 2 rfl rfl Try.underlying30 rfl (szd sz30fo (by kernel_rfl))) (RV_t rfl) ?_
      have hK2 : foldK S r = adE ({ S with a := s1, b := s2, es := gs } : SvS).sv r := by rw [hsv]; exact hK
      exact fun w' h => .inl ⟨by rw [hK2]; exact h2, by rw [hK2]; first | done | rfl, h.fr⟩
    ·
      first | (have h2 := of_decide_eq_true h2) | (have h2 := of_decide_eq_false h2) | skip
      refine J_skip ?_
      change J _ _ _ _
      refine J_seq ?_
      refine J_region ?_
      refine L_v rfl rfl rfl (V_loadT 3 (vs := svR (adX ({ S with a := s1, b := s2, es := gs } : SvS) r n1' n2') q1' q3') rfl rfl rfl Try.underlying30 rfl sz30fo (by kernel_rfl) (by kernel_rfl)) ?_
      refine L_storeW 2 rfl rfl rfl rfl rfl rfl (szd sz30fo (by kernel_rfl)) (all_one (by kernel_rfl)) (by kernel_rfl) ?_
      refine L_v rfl rfl rfl (V_assign rfl rfl) ?_
      refine L_nil ?_
      change J _ _ _ _
      refine J_ret ?_
      change Kret _ _ _ Exit.ret _
      refine ret2 rfl rfl (RV_c 2 rfl rfl Try.underlying30 rfl (szd sz30fo (by kernel_rfl))) (RV_t rfl) ?_
      have hin : ∀ f ∈ [clT 3 S.sn.2.2.1 s1 s2, allF (gs.map (enT 3))] ++ adG ({ S with a := s1, b := s2, es := gs } : SvS) r n1' n2', f ∈ ([svF S s s3, rcA (r, ra, rb, rc, rd)] ++ [clT 3 S.sn.2.2.1 s1 s2, allF (gs.map (enT 3))]) ++ adG ({ S with a := s1, b := s2, es := gs } : SvS) r n1' n2' := fun f hf => by
        rcases List.mem_append.1 hf with h | h
        · exact List.mem_append_left _ (List.mem_append_right _ h)
        · exact List.mem_append_right _ h
      have hN : ∀ f ∈ [clT 3 S.sn.2.2.1 s1 s2, allF (gs.map (enT 3))] ++ adG ({ S with a := s1, b := s2, es := gs } : SvS) r n1' n2', ∀ k, f.fp k → w.heap.size ≤ k := fun f hf => (List.mem_append.1 hf).elim (n1 f) (n9 f)
      have hx : adE ({ S with a := s1, b := s2, es := gs } : SvS).sv r = 0 := Classical.not_not.1 h2
      have hK2 : foldK S r = 0 := by rw [hsv] at hx; exact hK.trans hx
      intro w' h
      obtain ⟨h3, h4⟩ := adX_new (S := ({ S with a := s1, b := s2, es := gs } : SvS)) hx h hin hN
      exact .inr ⟨hK2, adX ({ S with a := s1, b := s2, es := gs } : SvS) r n1' n2', q1', q3', rfl, by rw [adX_sv, if_neg (by rw [hx]; decide), hsv], hq1', hq3',
        Upd.of h3 rfl (Pk.of_sub (List.Sublist.cons _ (List.Sublist.cons _ (List.Sublist.cons _ (List.Sublist.cons _ (List.Sublist.refl _)))))) (fun f hf => by
          rcases List.mem_cons.1 hf with rfl | hf
          · exact List.mem_append_left _ (List.mem_append_right _ (List.mem_singleton.2 rfl))
          · obtain rfl := List.mem_singleton.1 hf
            exact List.mem_append_right _ (List.mem_singleton.2 rfl)) h4⟩

end Go.Proofs.Ytcdenfkbhefbbaa
