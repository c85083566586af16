/- The reference of the vault: what a record makes of what is saved. -/
import Derived.Test.YtcdenfkbhefbbaaV15
set_option linter.unusedVariables false
set_option linter.unusedSimpArgs false
set_option maxRecDepth 100000
namespace Go.Proofs.Ytcdenfkbhefbbaa
open Go.Sx
def adGA (S : SvS) (r : Rec) (n1 n2 : Sp) : List Fact :=
  if adE S.sv r ≠ 0 then [] else if r.1 = 2 then [allF (([(r.2.2.2.1, n1, n2)] : List EnV).map enA)] else if r.1 = 4 then [clA r.2.2.2.2.2.1.2.2.1 n1 n2] else []
theorem adGA_0 {S : SvS} {r : Rec} {n1 n2 : Sp} (h2 : r.1 ≠ 2) (h4 : r.1 ≠ 4) : adGA S r n1 n2 = [] := by unfold adGA; rw [if_neg h2, if_neg h4, ite_self]
theorem adGA_2 {S : SvS} {r : Rec} {n1 n2 : Sp} (h0 : adE S.sv r = 0) (h : r.1 = 2) : adGA S r n1 n2 = [allF (([(r.2.2.2.1, n1, n2)] : List EnV).map enA)] := by unfold adGA; rw [if_neg (by rw [h0]; decide), if_pos h]
theorem adGA_4 {S : SvS} {r : Rec} {n1 n2 : Sp} (h0 : adE S.sv r = 0) (h : r.1 = 4) : adGA S r n1 n2 = [clA r.2.2.2.2.2.1.2.2.1 n1 n2] := by unfold adGA; rw [if_neg (by rw [h0]; decide), if_neg (by omega), if_pos h]
/-- The councils of what came out. -/
theorem adX_newA {S : SvS} {r : Rec} {n1 n2 : Sp} (h0 : adE S.sv r = 0) {cx : Cx} {m : Mem} {fs : List Fact} {w : World} (h : OkW cx m fs w) (hin : ∀ f ∈ [clA S.sn.2.2.1 S.a S.b, allF (S.es.map (enA))] ++ adGA S r n1 n2, f ∈ fs) {N : Nat} (hN : ∀ f ∈ [clA S.sn.2.2.1 S.a S.b, allF (S.es.map (enA))] ++ adGA S r n1 n2, ∀ k, f.fp k → N ≤ k) :
    OkW cx m (fs ++ [clA (adX S r n1 n2).sn.2.2.1 (adX S r n1 n2).a (adX S r n1 n2).b] ++ [allF ((adX S r n1 n2).es.map (enA))]) w ∧
    ∀ f ∈ [clA (adX S r n1 n2).sn.2.2.1 (adX S r n1 n2).a (adX S r n1 n2).b, allF ((adX S r n1 n2).es.map (enA))], ∀ k, f.fp k → N ≤ k := by
  have m1 : clA S.sn.2.2.1 S.a S.b ∈ [clA S.sn.2.2.1 S.a S.b, allF (S.es.map (enA))] ++ adGA S r n1 n2 := by simp
  have m2 : allF (S.es.map (enA)) ∈ [clA S.sn.2.2.1 S.a S.b, allF (S.es.map (enA))] ++ adGA S r n1 n2 := by simp
  have p1 := (h.facts _ (hin _ m1)).1
  have p2 := (h.facts _ (hin _ m2)).1
  have sub : ∀ l : List EnV, (∀ p ∈ l, p ∈ S.es) → (allF (l.map (enA))).p w ∧ ∀ k, (allF (l.map (enA))).fp k → (allF (S.es.map (enA))).fp k := fun l hl =>
    ⟨fun f hf => by
      obtain ⟨p, hp, rfl⟩ := List.mem_map.1 hf
      exact p2 _ (List.mem_map.2 ⟨p, hl p hp, rfl⟩), fun k ⟨f, hf, hk⟩ => by
      obtain ⟨p, hp, rfl⟩ := List.mem_map.1 hf
      exact ⟨_, List.mem_map.2 ⟨p, hl p hp, rfl⟩, hk⟩⟩
  have key : (clA (adX S r n1 n2).sn.2.2.1 (adX S r n1 n2).a (adX S r n1 n2).b).p w ∧ (∀ k, (clA (adX S r n1 n2).sn.2.2.1 (adX S r n1 n2).a (adX S r n1 n2).b).fp k → ∃ g ∈ [clA S.sn.2.2.1 S.a S.b, allF (S.es.map (enA))] ++ adGA S r n1 n2, g.fp k) ∧
      (allF ((adX S r n1 n2).es.map (enA))).p w ∧ ∀ k, (allF ((adX S r n1 n2).es.map (enA))).fp k → ∃ g ∈ [clA S.sn.2.2.1 S.a S.b, allF (S.es.map (enA))] ++ adGA S r n1 n2, g.fp k := by
    by_cases h1 : r.1 = 1
    · rw [adX_1 h0 h1]
      exact ⟨p1, fun k hk => ⟨_, m1, hk⟩, p2, fun k hk => ⟨_, m2, hk⟩⟩
    · by_cases h2 : r.1 = 2
      · have m3 : allF (([(r.2.2.2.1, n1, n2)] : List EnV).map (enA)) ∈ [clA S.sn.2.2.1 S.a S.b, allF (S.es.map (enA))] ++ adGA S r n1 n2 := by rw [adGA_2 h0 h2]; simp
        have p3 := (h.facts _ (hin _ m3)).1
        rw [adX_2 h0 h2]
        refine ⟨p1, fun k hk => ⟨_, m1, hk⟩, fun f hf => ?_, fun k ⟨f, hf, hk⟩ => ?_⟩
        · rw [show ({ S with es := S.es ++ [(r.2.2.2.1, n1, n2)] } : SvS).es = S.es ++ [(r.2.2.2.1, n1, n2)] from rfl, List.map_append] at hf
          exact (List.mem_append.1 hf).elim (p2 f) (p3 f)
        · rw [show ({ S with es := S.es ++ [(r.2.2.2.1, n1, n2)] } : SvS).es = S.es ++ [(r.2.2.2.1, n1, n2)] from rfl, List.map_append] at hf
          exact (List.mem_append.1 hf).elim (fun h => ⟨_, m2, _, h, hk⟩) (fun h => ⟨_, m3, _, h, hk⟩)
      · by_cases h3 : r.1 = 3
        · rw [adX_3 h0 h3]
          have := sub (S.es.take (r.2.2.2.2.1 - S.sn.1 - 1).toNat) (fun p hp => List.mem_of_mem_take hp)
          exact ⟨p1, fun k hk => ⟨_, m1, hk⟩, this.1, fun k hk => ⟨_, m2, this.2 k hk⟩⟩
        · by_cases h4 : r.1 = 4
          · have m3 : clA r.2.2.2.2.2.1.2.2.1 n1 n2 ∈ [clA S.sn.2.2.1 S.a S.b, allF (S.es.map (enA))] ++ adGA S r n1 n2 := by rw [adGA_4 h0 h4]; simp
            have p3 := (h.facts _ (hin _ m3)).1
            have := sub (S.es.drop (cutE r.2.2.2.2.2.1 S.es)) (fun p hp => List.mem_of_mem_drop hp)
            rw [adX_4 h0 h4]
            exact ⟨p3, fun k hk => ⟨_, m3, hk⟩, this.1, fun k hk => ⟨_, m2, this.2 k hk⟩⟩
          · have e : adX S r n1 n2 = { S with gl := S.gl ++ [r.2.2.2.2.2.2] } := by unfold adX; rw [if_neg (by rw [h0]; decide), if_neg h1, if_neg h2, if_neg h3, if_neg h4]
            rw [e]
            exact ⟨p1, fun k hk => ⟨_, m1, hk⟩, p2, fun k hk => ⟨_, m2, hk⟩⟩
  refine ⟨(h.deriv key.1 fun k hk => ?_).deriv key.2.2.1 fun k hk => ?_, fun f hf k hk => ?_⟩
  · obtain ⟨g, hg, hk⟩ := key.2.1 k hk
    exact ⟨g, hin g hg, hk⟩
  · obtain ⟨g, hg, hk⟩ := key.2.2.2 k hk
    exact ⟨g, List.mem_append_left _ (hin g hg), hk⟩
  · rcases List.mem_cons.1 hf with rfl | hf
    · obtain ⟨g, hg, hk⟩ := key.2.1 k hk
      exact hN g hg k hk
    · obtain rfl := List.mem_singleton.1 hf
      obtain ⟨g, hg, hk⟩ := key.2.2.2 k hk
      exact hN g hg k hk
theorem svF_of {cx : Cx} {m : Mem} {fs : List Fact} {w : World} {S : SvS} {q1 q3 : OwnP} (h : OkW cx m fs w) (hm : cx.mods = []) (hq1 : PC 43 q1 S.es.length (keS S)) (hq3 : PC 97 q3 S.gl.length (kgS S)) (hs : ∀ p ∈ pM 39 q1 (keS S) ++ pM 43 q3 (kgS S), p ∈ m) (hc : NewF cx.w0 w (clA S.sn.2.2.1 S.a S.b)) (he : NewF cx.w0 w (allF (S.es.map enA))) : NewF cx.w0 w (svF S (pA q1, pC q1) (pA q3, pC q3)) := by
  have new : ∀ g o, (g, o) ∈ m → w.heap[g]? = some o ∧ cx.w0.heap.size ≤ g := fun g o hg => ⟨h.mem g o hg, by
    rcases h.may g (List.mem_map.2 ⟨_, hg, rfl⟩) with h1 | h1
    · exact h1
    · rw [hm] at h1; cases h1⟩
  exact hc.and (NewF.and (NewF.and (hq1.newF fun g o h => new g o (hs _ (List.mem_append_left _ h))) he) (hq3.newF fun g o h => new g o (hs _ (List.mem_append_right _ h))))
/-- Where entries go one after another, a snapshot's own entry lies at one place alone. -/
theorem cut_at {x sn : Sn} {es : List EnV} {k : Nat} (hg : goB sn es es.length = true) (hk : (k : Int) = x.1 - sn.1 - 1) (hl : k < es.length) (ht : (es.getD k env0).1.2.1 = x.2.1) : cutE x es = k + 1 := by
  have go := of_decide_eq_true hg
  have hi : es.findIdx? (fun p => isS x p.1) = some k := by
    rw [List.findIdx?_eq_some_iff_getElem]
    refine ⟨hl, ?_, fun j hj => ?_⟩
    · have h1 := go k hl
      rw [List.getD_eq_getElem?_getD, List.getElem?_eq_getElem hl] at h1 ht
      show (decide _ && decide _) = true
      rw [Bool.and_eq_true, decide_eq_true_eq, decide_eq_true_eq]
      exact ⟨by have : (es[k].1.1 : Int) - 1 - k = sn.1 := h1; omega, ht⟩
    · have h1 := go j (by omega)
      rw [List.getD_eq_getElem?_getD, List.getElem?_eq_getElem (by omega)] at h1
      show ¬ (decide _ && decide _) = true
      rw [Bool.and_eq_true, decide_eq_true_eq]
      intro h2
      have h3 : (es[j].1.1 : Int) - 1 - j = sn.1 := h1
      have h4 : es[j].1.1 = x.1 := h2.1
      omega
  unfold cutE
  rw [hi]
theorem cut_no {x sn : Sn} {es : List EnV} {z : Int} (hg : goB sn es es.length = true) (hz : z = x.1 - sn.1 - 1) (h : (es.length : Int) ≤ z ∨ ∃ k : Nat, z = (k : Int) ∧ k < es.length ∧ (es.getD k env0).1.2.1 ≠ x.2.1) : cutE x es = es.length := by
  have go := of_decide_eq_true hg
  have hi : es.findIdx? (fun p => isS x p.1) = none := by
    rw [List.findIdx?_eq_none_iff]
    intro p hp
    obtain ⟨j, hj, rfl⟩ := List.mem_iff_getElem.1 hp
    have h1 := go j hj
    rw [List.getD_eq_getElem?_getD, List.getElem?_eq_getElem hj] at h1
    have h3 : (es[j].1.1 : Int) - 1 - j = sn.1 := h1
    show (decide _ && decide _) = false
    rw [Bool.and_eq_false_iff, decide_eq_false_iff_not, decide_eq_false_iff_not]
    rcases h with h | ⟨k, hk, hl, ht⟩
    · left; intro h4; have h5 : es[j].1.1 = x.1 := h4; omega
    · by_cases hjk : j = k
      · subst hjk
        right
        rw [List.getD_eq_getElem?_getD, List.getElem?_eq_getElem hl] at ht
        exact ht
      · left; intro h4; have h5 : es[j].1.1 = x.1 := h4; omega
  unfold cutE
  rw [hi]
theorem behind_P {es : List EnV} {q1 : OwnP} {x : Sn} {V : Value} (hq1 : PC 43 q1 es.length (es.map enW).flatten) (hV : V = sDrop (pA q1, pC q1) es.length (cutE x es) ∨ (V = .slice none 0 0 ∧ cutE x es = es.length)) :
    ∃ q2 : OwnP, V = .slice (pA q2) (es.length - cutE x es) (pC q2) ∧ PC 43 q2 (es.length - cutE x es) ((es.map enW).flatten.drop (cutE x es * 43)) ∧ ∀ p ∈ pM 39 q2 ((es.map enW).flatten.drop (cutE x es * 43)), p ∈ pM 39 q1 (es.map enW).flatten := by
  have k9 := cut_le x es
  rcases hV with rfl | ⟨rfl, hc⟩
  · refine ⟨pDrop 43 (cutE x es) (es.map enW).flatten q1, ?_, pDrop_C hq1 k9, fun p hp => by rw [pDrop_M 39 hq1 k9] at hp; exact hp⟩
    exact (pDrop_V hq1 k9).symm
  · refine ⟨none, by rw [hc, Nat.sub_self]; rfl, ?_, fun p hp => (nomatch hp)⟩
    rw [hc, Nat.sub_self]
    exact ⟨rfl, List.drop_eq_nil_of_le (by rw [hq1.len]; exact Nat.le_refl _)⟩
def RFoldP (S : SvS) (r : Rec) (w : World) : Ending → World → Prop := fun e w' => ∃ (S' : SvS) (s' s3' : Sp), e = .returned (.tuple #[.agg (svX S' s' s3').toArray, .int .i64 (adE S.sv r)]) ∧ Fr [] w w' ∧ NewF w w' (svF S' s' s3') ∧ S'.sv = if adE S.sv r = 0 then foldS S.sv r else sv0
theorem rf_no {S : SvS} {r : Rec} {w w' : World} {k : Int} (hk : adE S.sv r = k) (h0 : k ≠ 0) (hfr : Fr [] w w') : RFoldP S r w (.returned (.tuple #[.agg (svX SS0 spN spN).toArray, .int .i64 k])) w' := by
  subst hk
  exact ⟨SS0, spN, spN, rfl, hfr, svF0n, by rw [if_neg h0]; rfl⟩
theorem rf_yes {S : SvS} {r : Rec} {s1 s2 : Sp} {gs : List EnV} (hgs : gs.map Prod.fst = S.es.map Prod.fst) (h0 : adE S.sv r = 0) (n1 n2 : Sp) (q1 q3 : OwnP) {S' : SvS} (hS : adX { S with a := s1, b := s2, es := gs } r n1 n2 = S') {V : List Value} (hV : V = svR S' q1 q3) (hq1 : PC 43 q1 S'.es.length (keS S')) (hq3 : PC 97 q3 S'.gl.length (kgS S'))
    {cx : Cx} {m : Mem} {fs : List Fact} {w : World} (h : OkW cx m fs w) (hm : cx.mods = []) (hs : ∀ p ∈ pM 39 q1 (keS S') ++ pM 43 q3 (kgS S'), p ∈ m) (hin : ∀ f ∈ [clA S.sn.2.2.1 s1 s2, allF (gs.map enA)] ++ adGA { S with a := s1, b := s2, es := gs } r n1 n2, f ∈ fs) (hN : ∀ f ∈ [clA S.sn.2.2.1 s1 s2, allF (gs.map enA)] ++ adGA { S with a := s1, b := s2, es := gs } r n1 n2, ∀ k, f.fp k → cx.w0.heap.size ≤ k) :
    RFoldP S r cx.w0 (.returned (.tuple #[.agg V.toArray, .int .i64 0])) w := by
  subst hV
  have hsv : ({ S with a := s1, b := s2, es := gs } : SvS).sv = S.sv := by unfold SvS.sv; rw [hgs]
  have hx : adE ({ S with a := s1, b := s2, es := gs } : SvS).sv r = 0 := by rw [hsv]; exact h0
  subst hS
  obtain ⟨h3, h4⟩ := adX_newA (S := { S with a := s1, b := s2, es := gs }) hx h hin hN
  have nw : ∀ f ∈ [clA (adX { S with a := s1, b := s2, es := gs } r n1 n2).sn.2.2.1 (adX { S with a := s1, b := s2, es := gs } r n1 n2).a (adX { S with a := s1, b := s2, es := gs } r n1 n2).b, allF ((adX { S with a := s1, b := s2, es := gs } r n1 n2).es.map enA)], NewF cx.w0 w f := fun f hf => by
    have hmem : f ∈ (fs ++ [clA (adX { S with a := s1, b := s2, es := gs } r n1 n2).sn.2.2.1 (adX { S with a := s1, b := s2, es := gs } r n1 n2).a (adX { S with a := s1, b := s2, es := gs } r n1 n2).b]) ++ [allF ((adX { S with a := s1, b := s2, es := gs } r n1 n2).es.map enA)] := by
      rcases List.mem_cons.1 hf with rfl | hf
      · exact List.mem_append_left _ (List.mem_append_right _ (List.mem_singleton.2 rfl))
      · exact List.mem_append_right _ hf
    exact ⟨⟨(h3.facts f hmem).1, fun k hk => ((h3.facts f hmem).2 k hk).1⟩, h4 f hf⟩
  have hfr : Fr [] cx.w0 w := hm ▸ h.fr
  refine ⟨_, (pA q1, pC q1), (pA q3, pC q3), by rw [h0], hfr, svF_of h hm hq1 hq3 hs (nw _ (List.mem_cons_self ..)) (nw _ (List.mem_cons_of_mem _ (List.mem_cons_self ..))), ?_⟩
  rw [if_pos h0, adX_sv, if_neg (by rw [hx]; decide), hsv]
theorem wrap_last {a l : Int} (ha : -9223372036854775808 ≤ a) (ha2 : a ≤ 9223372036854775807) (hl : 0 ≤ l) (hl2 : l ≤ 900009000) : IntKind.i64.wrap (a - 1) = l ↔ a = l + 1 := by
  rw [IntKind.wrap_i64]
  omega
theorem sz3rf : (Try.prog.info? 3).map (·.size) = some 1 := by kernel_rfl
theorem sz26rf : (Try.prog.info? 26).map (·.size) = some 5 := by kernel_rfl
theorem sz27rf : (Try.prog.info? 27).map (·.size) = some 1 := by kernel_rfl
theorem sz28rf : (Try.prog.info? 28).map (·.size) = some 1 := by kernel_rfl
theorem sz30rf : (Try.prog.info? 30).map (·.size) = some 9 := by kernel_rfl
theorem sz31rf : (Try.prog.info? 31).map (·.size) = some 1 := by kernel_rfl
theorem sz39rf : (Try.prog.info? 39).map (·.size) = some 43 := by kernel_rfl
theorem sz41rf : (Try.prog.info? 41).map (·.size) = some 65 := by kernel_rfl
theorem sz43rf : (Try.prog.info? 43).map (·.size) = some 97 := by kernel_rfl
theorem tx7rf : Txt Try.prog 7 := txt_of Try.func7 rfl (by kernel_rfl)
theorem tx16rf : Txt Try.prog 16 := txt_of Try.func16 rfl (by kernel_rfl)
theorem tx17rf : Txt Try.prog 17 := txt_of Try.func17 rfl (by kernel_rfl)
theorem tx24rf : Txt Try.prog 24 := txt_of Try.func24 rfl (by kernel_rfl)
theorem tx29rf : Txt Try.prog 29 := txt_of Try.func29 rfl (by kernel_rfl)
theorem tx48rf : Txt Try.prog 48 := txt_of Try.func48 rfl (by kernel_rfl)
theorem tx49rf : Txt Try.prog 49 := txt_of Try.func49 rfl (by kernel_rfl)
theorem z30rf : (Try.prog.info? 30).bind (·.zero) = some (.agg [.int .i64 0, .int .i64 0, .int .i64 0, .int .i64 0, .slice none 0 0, .slice none 0 0, .string ByteArray.empty, .slice none 0 0, .slice none 0 0].toArray) := by kernel_rfl

theorem behind_w (S : SvS) (s s3 : Sp) (x : Sn) (c d : Sp) (w : World) (f1 : FA w (factC 43 (.slice s.1 S.es.length s.2) S.es.length (keS S))) (hg : goB S.sn S.es S.es.length = true) (hc : S.es.length ≤ s.2) (hl : S.es.length ≤ 9000) (hn : 0 ≤ S.sn.1 ∧ S.sn.1 ≤ 900000000) (hx : S.sn.1 < x.1 ∧ x.1 ≤ 900000000) :
    Calls Try.prog 49 #[.agg (svX S s s3).toArray, .agg (snX x c d).toArray] w fun e w' => ∃ V, e = .returned V ∧ Fr [] w w' ∧ (V = sDrop s S.es.length (cutE x S.es) ∨ (V = .slice none 0 0 ∧ cutE x S.es = S.es.length)) := by
  obtain ⟨k, hk⟩ : ∃ k : Nat, (k : Int) = x.1 - S.sn.1 - 1 := ⟨(x.1 - S.sn.1 - 1).toNat, by omega⟩
  refine calls_of (args := [.agg (svX S s s3).toArray, .agg (snX x c d).toArray]) ([]) ([]) ([factC 43 (.slice s.1 S.es.length s.2) S.es.length (keS S)]) Try.func49 rfl rfl (okFW (.cons f1 .nil)) ?_
  refine J_seq ?_
  refine J_region ?_
  refine L_box rfl rfl rfl rfl rfl (fun b0 => ?_)
  refine L_box rfl rfl rfl rfl rfl (fun b1 => ?_)
  refine L_v rfl rfl rfl (V_assign rfl rfl) ?_
  refine L_nil ?_
  change J _ _ _ _
  refine J_seq ?_
  refine J_region ?_
  refine L_v rfl rfl rfl (V_fieldAddr rfl rfl Try.underlying26 rfl sz3rf rfl) ?_
  refine L_v rfl rfl rfl (V_load1 1 rfl rfl rfl Try.underlying3 rfl (by rfl)) ?_
  refine L_v rfl rfl rfl (V_fieldAddr rfl rfl Try.underlying30 rfl sz26rf rfl) ?_
  refine L_v rfl rfl rfl (V_fieldAddr rfl rfl Try.underlying26 rfl sz3rf rfl) ?_
  refine L_v rfl rfl rfl (V_load1 0 rfl rfl rfl Try.underlying3 rfl (by rfl)) ?_
  refine L_v rfl rfl rfl (V_sub rfl rfl rfl (by first | exact Go.IntWalk.i64_in _ (by omega) | rfl)) ?_
  refine L_v rfl rfl rfl (V_sub (r := (k : Int)) rfl rfl rfl (by rw [IntKind.wrap_i64]; omega)) ?_
  refine L_v rfl rfl rfl (V_assign rfl rfl) ?_
  refine L_nil ?_
  change J _ _ _ _
  refine J_seq ?_
  refine J_seq ?_
  refine J_regionQ rfl (by kernel_rfl) ?_
  refine LQ_v rfl rfl rfl (V_move rfl rfl) ?_
  refine LQ_v rfl rfl rfl (V_fieldAddr rfl rfl Try.underlying30 rfl sz27rf rfl) ?_
  refine LQ_v rfl rfl rfl (V_load1 0 rfl rfl rfl Try.underlying27 rfl (by rfl)) ?_
  refine LQ_v rfl rfl rfl (V_len rfl rfl Try.underlying27 rfl) ?_
  refine LQ_v rfl rfl rfl (V_geq rfl rfl rfl (by first | exact decide_eq_true (by omega) | exact decide_eq_false (by omega) | rfl)) ?_
  refine LQ_v rfl rfl rfl (V_move rfl rfl) ?_
  refine LQ_split 18 rfl (fun h1 => ?_) (fun h1 => ?_)
  ·
    first | (have h1 := of_decide_eq_true h1) | (have h1 := of_decide_eq_false h1) | skip
    refine LQ_skip rfl rfl rfl rfl rfl rfl rfl ?_
    refine LQ_skip rfl rfl rfl rfl rfl rfl rfl ?_
    refine LQ_skip rfl rfl rfl rfl rfl rfl rfl ?_
    refine LQ_skip rfl rfl rfl rfl rfl rfl rfl ?_
    refine LQ_skip rfl rfl rfl rfl rfl rfl rfl ?_
    refine LQ_skip rfl rfl rfl rfl rfl rfl rfl ?_
    refine LQ_skip rfl rfl rfl rfl rfl rfl rfl ?_
    refine LQ_skip rfl rfl rfl rfl rfl rfl rfl ?_
    refine LQ_skip rfl rfl rfl rfl rfl rfl rfl ?_
    first | refine LQ_v rfl rfl rfl (V_pickT rfl rfl rfl) ?_ | refine LQ_v rfl rfl rfl (V_pickF rfl rfl rfl) ?_
    refine LQ_nil ?_
    change J _ _ _ _
    refine J_true rfl ?_
    refine J_seq ?_
    refine J_region ?_
    refine L_v rfl rfl rfl (V_assign rfl rfl) ?_
    refine L_nil ?_
    change J _ _ _ _
    refine J_ret ?_
    change Kret _ _ _ Exit.ret _
    refine ret1 rfl rfl (RV_t rfl) ?_
    exact fun w' h => ⟨_, rfl, h.fr, .inr ⟨rfl, cut_no hg hk (.inl (by omega))⟩⟩
  ·
    first | (have h1 := of_decide_eq_true h1) | (have h1 := of_decide_eq_false h1) | skip
    refine LQ_wv rfl rfl rfl rfl rfl rfl (V_fieldAddr rfl rfl Try.underlying30 rfl sz27rf rfl) ?_
    refine LQ_wv rfl rfl rfl rfl rfl rfl (V_load1 0 rfl rfl rfl Try.underlying27 rfl (by rfl)) ?_
    refine LQ_wv rfl rfl rfl rfl rfl rfl (V_move rfl rfl) ?_
    refine LQ_wv rfl rfl rfl rfl rfl rfl (V_indexC rfl rfl rfl Try.underlying27 sz39rf (fun w hw => (hw.fa 0 rfl).1) (by omega) (by omega)) ?_
    refine LQ_wv rfl rfl rfl rfl rfl rfl (V_fieldC rfl rfl (fun w hw => (let ⟨b, o, e, _⟩ := SlC.cell ((hw.fa 0 rfl).1) (rows_v (f := enW) env0 (i := k) (sz := 42) (fun _ => rfl) (by omega) 0 _ rfl); ⟨b, o, e⟩)) Try.underlying39 rfl sz3rf rfl) ?_
    refine LQ_wv rfl rfl rfl rfl rfl rfl (V_loadC rfl rfl Try.underlying3 rfl (fun w hw => (hw.fa 0 rfl).1) (rows_v (f := enW) env0 (i := k) (sz := 42) (fun _ => rfl) (by omega) 1 _ rfl)) ?_
    refine LQ_wv rfl rfl rfl rfl rfl rfl (V_fieldAddr rfl rfl Try.underlying26 rfl sz3rf rfl) ?_
    refine LQ_wv rfl rfl rfl rfl rfl rfl (V_load1 1 rfl rfl rfl Try.underlying3 rfl (by rfl)) ?_
    refine LQ_wv rfl rfl rfl rfl rfl rfl (V_neq rfl rfl rfl (by first | exact decide_eq_true (by omega) | exact decide_eq_false (by omega) | rfl)) ?_
    first | refine LQ_v rfl rfl rfl (V_pickT rfl rfl rfl) ?_ | refine LQ_v rfl rfl rfl (V_pickF rfl rfl rfl) ?_
    refine LQ_nil ?_
    change J _ _ _ _
    refine J_cond rfl (fun h2 => ?_) (fun h2 => ?_)
    ·
      first | (have h2 := of_decide_eq_true h2) | (have h2 := of_decide_eq_false h2) | skip
      refine J_seq ?_
      refine J_region ?_
      refine L_v rfl rfl rfl (V_assign rfl rfl) ?_
      refine L_nil ?_
      change J _ _ _ _
      refine J_ret ?_
      change Kret _ _ _ Exit.ret _
      refine ret1 rfl rfl (RV_t rfl) ?_
      exact fun w' h => ⟨_, rfl, h.fr, .inr ⟨rfl, cut_no hg hk (.inr ⟨k, rfl, by omega, h2⟩)⟩⟩
    ·
      first | (have h2 := of_decide_eq_true h2) | (have h2 := of_decide_eq_false h2) | skip
      refine J_skip ?_
      change J _ _ _ _
      refine J_seq ?_
      refine J_region ?_
      refine L_v rfl rfl rfl (V_fieldAddr rfl rfl Try.underlying30 rfl sz27rf rfl) ?_
      refine L_v rfl rfl rfl (V_load1 0 rfl rfl rfl Try.underlying27 rfl (by rfl)) ?_
      refine L_v rfl rfl rfl (V_move rfl rfl) ?_
      refine L_v rfl rfl rfl (V_add rfl rfl rfl (by first | exact Go.IntWalk.i64_in _ (by omega) | rfl)) ?_
      refine L_v rfl rfl rfl (V_sliceS rfl rfl Try.underlying27 sz39rf (Bd.at (v := k + 1) rfl (by omega)) rfl rfl rfl (by omega) (by omega) (by omega) rfl) ?_
      refine L_v rfl rfl rfl (V_assign rfl rfl) ?_
      refine L_nil ?_
      change J _ _ _ _
      refine J_ret ?_
      change Kret _ _ _ Exit.ret _
      refine ret1 rfl rfl (RV_t rfl) ?_
      have hcut := cut_at hg hk (by omega) (Classical.not_not.1 h2)
      exact fun w' h => ⟨_, rfl, h.fr, .inl (by rw [hcut])⟩

set_option maxHeartbeats 8000000 in
theorem folded_w (S : SvS) (s s3 : Sp) (r : Rec) (ra rb rc rd : Sp) (w : World) (f1 : FA w (svF S s s3)) (f2 : FA w (rcA (r, ra, rb, rc, rd))) (hz : SzB S) (hB : SzC r.2.2.2.1.2.2.2.2 ∧ SzC r.2.2.2.2.2.1.2.2.1) (hi : -9223372036854775808 ≤ r.2.2.2.1.1 ∧ r.2.2.2.1.1 ≤ 9223372036854775807) (hR : RightS S.sv) (hok : okR r = true ∧ MayR r) :
    Calls Try.prog 26 #[.agg (svX S s s3).toArray, .agg (recX r ra rb rc rd).toArray] w fun e w' => RFoldP S r w e w' := by
  obtain ⟨hS1, hS2, hS3, hS4⟩ := base_go (t := S.t) (v := S.v) (sn := S.sn) (es := S.es) (gl := S.gl) hR.1
  have hwl := wrap_last (l := S.sn.1 + (S.es.length : Int)) hi.1 hi.2 (by omega) (by omega)
  refine calls_of (args := [.agg (svX S s s3).toArray, .agg (recX r ra rb rc rd).toArray]) ([]) ([]) ([svF S s s3, rcA (r, ra, rb, rc, rd)]) Try.func26 rfl rfl (okFW (.cons f1 (.cons f2 .nil))) ?_
  refine J_seq ?_
  refine J_region ?_
  refine L_box rfl rfl rfl rfl rfl (fun b0 => ?_)
  refine L_box rfl rfl rfl rfl rfl (fun b1 => ?_)
  refine L_alloc rfl rfl rfl rfl z30rf (fun b2 => ?_)
  refine L_v rfl rfl rfl (V_assign rfl rfl) ?_
  refine L_nil ?_
  change J _ _ _ _
  refine J_seq ?_
  refine J_region ?_
  refine L_v rfl rfl rfl (V_loadT 0 (vs := svC S.t S.v S.sn S.a S.b (.slice s.1 S.es.length s.2) (.slice s3.1 S.gl.length s3.2)) rfl rfl rfl Try.underlying30 rfl sz30rf (by kernel_rfl) (by kernel_rfl)) ?_
  refine L_call rfl rfl rfl rfl tx7rf (fun w1 hw => (rown_w S s s3 w1 (hw.fa 0 rfl) hz (by omega) (by omega)).mono ?_)
  rintro e w' ⟨s1, s2, q1, q3, gs, hgs, rfl, hfr, hq1, hq3, hn⟩
  have hgl : gs.length = S.es.length := by have := congrArg List.length hgs; simpa using this
  have hle1 := hq1.le
  have hle3 := hq3.le
  have n1' : ∀ f ∈ [clA S.sn.2.2.1 s1 s2, allF (gs.map enA)], ∀ k, f.fp k → w.heap.size ≤ k := fun f hf k hk => Nat.le_trans hw.fr.size ((hn.fa f hf).new k hk)
  refine ⟨_, _, _, rfl, hw.addL hfr hn, rfl, ?_⟩
  refine L_alloc rfl rfl rfl rfl z30rf (fun b3 => ?_)
  refine L_pk ([(b0, row 30 (svX S s s3)), (b1, row 45 (recX r ra rb rc rd)), (b2, row 30 (svX SS0 spN spN))] ++ ((b3, row 30 (svX SS0 spN spN)) :: (pM 39 q1 (gs.map enW).flatten ++ pM 43 q3 (kgS S)))) (Pk.of_perm (l := ([(b0, row 30 (svX S s s3)), (b1, row 45 (recX r ra rb rc rd)), (b2, row 30 (svX SS0 spN spN))] ++ (pM 39 q1 (gs.map enW).flatten ++ pM 43 q3 (kgS S))) ++ [(b3, row 30 (svX SS0 spN spN))]) (by rw [List.append_assoc]; exact List.Perm.append_left _ (List.perm_append_singleton _ _)) (List.Sublist.refl _)) ?_
  refine L_storeW 3 rfl rfl rfl rfl rfl rfl (szd sz30rf (by kernel_rfl)) (all_one (by kernel_rfl)) (by kernel_rfl) ?_
  refine L_nil ?_
  change J _ _ _ _
  refine J_seq ?_
  refine J_region ?_
  refine L_v rfl rfl rfl (V_loadT 0 (vs := svC S.t S.v S.sn S.a S.b (.slice s.1 S.es.length s.2) (.slice s3.1 S.gl.length s3.2)) rfl rfl rfl Try.underlying30 rfl sz30rf (by kernel_rfl) (by kernel_rfl)) ?_
  refine L_callV rfl rfl rfl rfl rfl rfl tx48rf (fun w1 hw => last_w S s s3 w1 ⟨hS3, hS4⟩ hS1) ?_
  refine L_v rfl rfl rfl (V_assign rfl rfl) ?_
  refine L_nil ?_
  change J _ _ _ _
  refine J_seq ?_
  have hsv : ({ S with a := s1, b := s2, es := gs } : SvS).sv = S.sv := by unfold SvS.sv; rw [hgs]
  have hgoS : goB S.sn gs gs.length = true := (right_iff (S := ({ S with a := s1, b := s2, es := gs } : SvS)).1 (by rw [hsv]; exact hR)).2.1
  refine J_seq ?_
  refine J_mid (X := Nat × Nat × Nat × Nat) (fun z9 => { env := [(2, .pointer (some ⟨z9.1, 0, none⟩)), (3, .pointer (some ⟨z9.2.1, 0, none⟩)), (4, .pointer (some ⟨z9.2.2.1, 0, none⟩)), (6, .pointer (some ⟨z9.2.2.2, 0, none⟩)), (7, .int .i64 (S.sn.1 + (S.es.length : Int))), (14, .int .i64 r.1)], mem := [(z9.1, row 30 (svX S s s3)), (z9.2.1, row 45 (recX r ra rb rc rd)), (z9.2.2.1, row 30 (svX SS0 spN spN)), (z9.2.2.2, row 30 (svR ({ S with a := s1, b := s2, es := gs } : SvS) q1 q3))] ++ (pM 39 q1 (gs.map enW).flatten ++ pM 43 q3 (kgS S)), facts := [svF S s s3, rcA (r, ra, rb, rc, rd)] ++ [clA S.sn.2.2.1 s1 s2, allF (gs.map enA)] }) ?_ ?_
  ·
    refine J_region ?_
    refine L_v rfl rfl rfl (V_fieldAddr rfl rfl Try.underlying45 rfl sz31rf rfl) ?_
    refine L_v rfl rfl rfl (V_load1 1 rfl rfl rfl Try.underlying31 rfl (by rfl)) ?_
    refine L_nil ?_
    exact ⟨(b0, b1, b2, b3), ⟨rfl, rfl, rfl, rfl, rfl, rfl, trivial⟩, List.Sublist.refl _, fun f hf => hf, rfl⟩
  rintro ⟨b0, b1, b2, b3⟩
  change J _ _ _ _
  refine J_block ?_
  refine J_seq ?_
  refine J_region ?_
  refine L_v rfl rfl rfl (V_eql rfl rfl rfl (by first | exact decide_eq_true (by omega) | exact decide_eq_false (by omega) | rfl)) ?_
  refine L_v rfl rfl rfl (V_assign rfl rfl) ?_
  refine L_nil ?_
  change J _ _ _ _
  refine J_cond rfl (fun h1 => ?_) (fun h1 => ?_)
  ·
    first | (have h1 := of_decide_eq_true h1) | (have h1 := of_decide_eq_false h1) | skip
    refine J_seq ?_
    refine J_seq ?_
    refine J_region ?_
    refine L_v rfl rfl rfl (V_fieldAddr rfl rfl Try.underlying45 rfl sz3rf rfl) ?_
    refine L_v rfl rfl rfl (V_load1 1 rfl rfl rfl Try.underlying3 rfl (by rfl)) ?_
    refine L_v rfl rfl rfl (V_fieldAddr rfl rfl Try.underlying30 rfl sz3rf rfl) ?_
    refine L_v rfl rfl rfl (V_load1 0 rfl rfl rfl Try.underlying3 rfl (by rfl)) ?_
    refine L_v rfl rfl rfl (V_lss rfl rfl rfl (by first | exact decide_eq_true (by omega) | exact decide_eq_false (by omega) | rfl)) ?_
    refine L_v rfl rfl rfl (V_move rfl rfl) ?_
    apply L_or 3 57 61
    · rfl
    · rfl
    · rfl
    · rfl
    · rfl
    · rfl
    · rfl
    · kernel_rfl
    · intro hb2 _ _ hk2
      refine L_wv rfl rfl rfl rfl rfl rfl (V_fieldAddr rfl rfl Try.underlying45 rfl sz3rf rfl) ?_
      refine L_wv rfl rfl rfl rfl rfl rfl (V_load1 1 rfl rfl rfl Try.underlying3 rfl (by rfl)) ?_
      refine L_wcallV rfl rfl rfl rfl rfl rfl rfl rfl rfl tx29rf (fun w1 hw => rfar_w _ w1) ?_
      exact hk2 _ ⟨rfl, rfl, rfl, rfl, ext_cut 3 (by kernel_rfl) (by kernel_rfl)⟩
    refine L_v rfl rfl rfl (V_move rfl rfl) ?_
    apply L_or 3 62 66
    · rfl
    · rfl
    · rfl
    · rfl
    · rfl
    · rfl
    · rfl
    · kernel_rfl
    · intro hb3 _ _ hk3
      refine L_wv rfl rfl rfl rfl rfl rfl (V_fieldAddr rfl rfl Try.underlying45 rfl sz3rf rfl) ?_
      refine L_wv rfl rfl rfl rfl rfl rfl (V_load1 1 rfl rfl rfl Try.underlying3 rfl (by rfl)) ?_
      refine L_wcallV rfl rfl rfl rfl rfl rfl rfl rfl rfl tx29rf (fun w1 hw => rfar_w _ w1) ?_
      exact hk3 _ ⟨rfl, rfl, rfl, rfl, ext_cut 3 (by kernel_rfl) (by kernel_rfl)⟩
    refine L_nil ?_
    change J _ _ _ _
    refine J_cond rfl (fun h4 => ?_) (fun h4 => ?_)
    ·
      first | (have h4 := of_decide_eq_true h4) | (have h4 := of_decide_eq_false h4) | skip
      refine J_seq ?_
      refine J_region ?_
      refine L_callV rfl rfl rfl rfl rfl rfl tx24rf (fun w1 hw => no_w _ w1) ?_
      refine L_v rfl rfl rfl (V_extract rfl rfl rfl) ?_
      refine L_v rfl rfl rfl (V_extract rfl rfl rfl) ?_
      refine L_storeW 2 rfl rfl rfl rfl rfl rfl (szd sz30rf (by kernel_rfl)) (all_one (by kernel_rfl)) (by kernel_rfl) ?_
      refine L_v rfl rfl rfl (V_assign rfl rfl) ?_
      refine L_nil ?_
      change J _ _ _ _
      refine J_ret ?_
      change Kret _ _ _ Exit.ret _
      refine ret2 rfl rfl (RV_c 2 rfl rfl Try.underlying30 rfl (szd sz30rf (by kernel_rfl))) (RV_t rfl) ?_
      have hx : adE S.sv r = 110 := by rw [adE_1 hok h1, if_pos (show r.2.1 < S.sv.term ∨ far r.2.1 ∨ far r.2.2.1 from by simp only [Bool.or_eq_true, decide_eq_true_eq, or_assoc] at h4; exact h4)]
      exact fun w' h => rf_no hx (by decide) h.fr
    ·
      first | (have h4 := of_decide_eq_true h4) | (have h4 := of_decide_eq_false h4) | skip
      have hx : adE S.sv r = 0 := by rw [adE_1 hok h1, if_neg (by simp only [Bool.or_eq_false_iff, decide_eq_false_iff_not] at h4; exact fun hh => hh.elim h4.1.1 (fun h => h.elim h4.1.2 h4.2))]
      have hx2 : adE ({ S with a := s1, b := s2, es := gs } : SvS).sv r = 0 := by rw [hsv]; exact hx
      refine J_skip ?_
      change J _ _ _ _
      refine J_seq ?_
      refine J_region ?_
      refine L_v rfl rfl rfl (V_fieldAddr rfl rfl Try.underlying45 rfl sz3rf rfl) ?_
      refine L_v rfl rfl rfl (V_load1 1 rfl rfl rfl Try.underlying3 rfl (by rfl)) ?_
      refine L_v rfl rfl rfl (V_fieldAddr rfl rfl Try.underlying30 rfl sz3rf rfl) ?_
      refine L_store1 3 (l' := svC r.2.1 S.v S.sn s1 s2 (.slice (pA q1) gs.length (pC q1)) (.slice (pA q3) S.gl.length (pC q3))) rfl rfl rfl rfl rfl rfl rfl sz3rf (Nat.le_of_ble_eq_true (by kernel_rfl)) (by kernel_rfl) ?_
      refine L_nil ?_
      change J _ _ _ _
      refine J_region ?_
      refine L_v rfl rfl rfl (V_fieldAddr rfl rfl Try.underlying45 rfl sz3rf rfl) ?_
      refine L_v rfl rfl rfl (V_load1 1 rfl rfl rfl Try.underlying3 rfl (by rfl)) ?_
      refine L_v rfl rfl rfl (V_fieldAddr rfl rfl Try.underlying30 rfl sz3rf rfl) ?_
      refine L_store1 3 (l' := svC r.2.1 r.2.2.1 S.sn s1 s2 (.slice (pA q1) gs.length (pC q1)) (.slice (pA q3) S.gl.length (pC q3))) rfl rfl rfl rfl rfl rfl rfl sz3rf (Nat.le_of_ble_eq_true (by kernel_rfl)) (by kernel_rfl) ?_
      refine L_nil ?_
      change J _ _ _ _
      refine J_seq ?_
      refine J_region ?_
      refine L_v rfl rfl rfl (V_loadT 3 (vs := svC r.2.1 r.2.2.1 S.sn s1 s2 (.slice (pA q1) gs.length (pC q1)) (.slice (pA q3) S.gl.length (pC q3))) rfl rfl rfl Try.underlying30 rfl sz30rf (by kernel_rfl) (by kernel_rfl)) ?_
      refine L_storeW 2 rfl rfl rfl rfl rfl rfl (szd sz30rf (by kernel_rfl)) (all_one (by kernel_rfl)) (by kernel_rfl) ?_
      refine L_v rfl rfl rfl (V_assign rfl rfl) ?_
      refine L_nil ?_
      change J _ _ _ _
      refine J_ret ?_
      change Kret _ _ _ Exit.ret _
      refine ret2 rfl rfl (RV_c 2 rfl rfl Try.underlying30 rfl (szd sz30rf (by kernel_rfl))) (RV_t rfl) ?_
      exact fun w' h => rf_yes hgs hx spN spN q1 q3 (adX_1 hx2 h1) rfl hq1 hq3 h rfl (fun p hp => List.mem_cons_of_mem _ (List.mem_cons_of_mem _ (List.mem_cons_of_mem _ (List.mem_cons_of_mem _ (List.mem_append_right [] hp))))) (fun f hf => by rw [(adGA_0 (by omega) (by omega)), List.append_nil] at hf; exact List.mem_append_right _ hf) (fun f hf => by rw [(adGA_0 (by omega) (by omega)), List.append_nil] at hf; exact n1' f hf)
  ·
    first | (have h1 := of_decide_eq_true h1) | (have h1 := of_decide_eq_false h1) | skip
    refine J_seq ?_
    refine J_region ?_
    refine L_v rfl rfl rfl (V_eql rfl rfl rfl (by first | exact decide_eq_true (by omega) | exact decide_eq_false (by omega) | rfl)) ?_
    refine L_v rfl rfl rfl (V_assign rfl rfl) ?_
    refine L_nil ?_
    change J _ _ _ _
    refine J_cond rfl (fun h2 => ?_) (fun h2 => ?_)
    ·
      first | (have h2 := of_decide_eq_true h2) | (have h2 := of_decide_eq_false h2) | skip
      refine J_seq ?_
      refine J_seq ?_
      refine J_region ?_
      refine L_v rfl rfl rfl (V_fieldAddr rfl rfl Try.underlying45 rfl sz39rf rfl) ?_
      refine L_v rfl rfl rfl (V_fieldAddr rfl rfl Try.underlying39 rfl sz3rf rfl) ?_
      refine L_v rfl rfl rfl (V_load1 1 rfl rfl rfl Try.underlying3 rfl (by rfl)) ?_
      refine L_v rfl rfl rfl (V_sub rfl rfl rfl (by first | exact Go.IntWalk.i64_in _ (by omega) | rfl)) ?_
      refine L_v rfl rfl rfl (V_move rfl rfl) ?_
      refine L_v rfl rfl rfl (V_neq rfl rfl rfl (by first | exact decide_eq_true (by omega) | exact decide_eq_false (by omega) | rfl)) ?_
      refine L_v rfl rfl rfl (V_move rfl rfl) ?_
      apply L_or 4 84 89
      · rfl
      · rfl
      · rfl
      · rfl
      · rfl
      · rfl
      · rfl
      · kernel_rfl
      · intro hb3 _ _ hk3
        refine L_wv rfl rfl rfl rfl rfl rfl (V_fieldAddr rfl rfl Try.underlying45 rfl sz39rf rfl) ?_
        refine L_wv rfl rfl rfl rfl rfl rfl (V_fieldAddr rfl rfl Try.underlying39 rfl sz3rf rfl) ?_
        refine L_wv rfl rfl rfl rfl rfl rfl (V_load1 1 rfl rfl rfl Try.underlying3 rfl (by rfl)) ?_
        refine L_wcallV rfl rfl rfl rfl rfl rfl rfl rfl rfl tx29rf (fun w1 hw => rfar_w _ w1) ?_
        exact hk3 _ ⟨rfl, rfl, rfl, rfl, ext_cut 4 (by kernel_rfl) (by kernel_rfl)⟩
      refine L_nil ?_
      change J _ _ _ _
      refine J_cond rfl (fun h4 => ?_) (fun h4 => ?_)
      ·
        first | (have h4 := of_decide_eq_true h4) | (have h4 := of_decide_eq_false h4) | skip
        refine J_seq ?_
        refine J_region ?_
        refine L_callV rfl rfl rfl rfl rfl rfl tx24rf (fun w1 hw => no_w _ w1) ?_
        refine L_v rfl rfl rfl (V_extract rfl rfl rfl) ?_
        refine L_v rfl rfl rfl (V_extract rfl rfl rfl) ?_
        refine L_storeW 2 rfl rfl rfl rfl rfl rfl (szd sz30rf (by kernel_rfl)) (all_one (by kernel_rfl)) (by kernel_rfl) ?_
        refine L_v rfl rfl rfl (V_assign rfl rfl) ?_
        refine L_nil ?_
        change J _ _ _ _
        refine J_ret ?_
        change Kret _ _ _ Exit.ret _
        refine ret2 rfl rfl (RV_c 2 rfl rfl Try.underlying30 rfl (szd sz30rf (by kernel_rfl))) (RV_t rfl) ?_
        have hx : adE S.sv r = 110 := by rw [adE_2 hok h2, if_pos (show r.2.2.2.1.1 ≠ lastS S.sv + 1 ∨ far r.2.2.2.1.1 from by simp only [Bool.or_eq_true, decide_eq_true_eq] at h4; rw [svLast]; exact h4.imp (fun h hh => h (hwl.2 hh)) id)]
        exact fun w' h => rf_no hx (by decide) h.fr
      ·
        first | (have h4 := of_decide_eq_true h4) | (have h4 := of_decide_eq_false h4) | skip
        have hnn : ¬ (r.2.2.2.1.1 ≠ lastS S.sv + 1 ∨ far r.2.2.2.1.1) := by
          simp only [Bool.or_eq_false_iff, decide_eq_false_iff_not, Classical.not_not] at h4
          rw [svLast]
          exact fun hh => hh.elim (fun h => h (hwl.1 h4.1)) h4.2
        refine J_skip ?_
        change J _ _ _ _
        refine J_seq ?_
        refine J_seq ?_
        refine J_region ?_
        refine L_v rfl rfl rfl (V_fieldAddr rfl rfl Try.underlying30 rfl sz27rf rfl) ?_
        refine L_v rfl rfl rfl (V_load1 0 rfl rfl rfl Try.underlying27 rfl (by rfl)) ?_
        refine L_v rfl rfl rfl (V_len rfl rfl Try.underlying27 rfl) ?_
        refine L_v rfl rfl rfl (V_geq rfl rfl rfl (by first | exact decide_eq_true (by omega) | exact decide_eq_false (by omega) | rfl)) ?_
        refine L_nil ?_
        change J _ _ _ _
        refine J_cond rfl (fun h5 => ?_) (fun h5 => ?_)
        ·
          first | (have h5 := of_decide_eq_true h5) | (have h5 := of_decide_eq_false h5) | skip
          refine J_seq ?_
          refine J_region ?_
          refine L_callV rfl rfl rfl rfl rfl rfl tx24rf (fun w1 hw => no_w _ w1) ?_
          refine L_v rfl rfl rfl (V_extract rfl rfl rfl) ?_
          refine L_v rfl rfl rfl (V_extract rfl rfl rfl) ?_
          refine L_storeW 2 rfl rfl rfl rfl rfl rfl (szd sz30rf (by kernel_rfl)) (all_one (by kernel_rfl)) (by kernel_rfl) ?_
          refine L_v rfl rfl rfl (V_assign rfl rfl) ?_
          refine L_nil ?_
          change J _ _ _ _
          refine J_ret ?_
          change Kret _ _ _ Exit.ret _
          refine ret2 rfl rfl (RV_c 2 rfl rfl Try.underlying30 rfl (szd sz30rf (by kernel_rfl))) (RV_t rfl) ?_
          have hx : adE S.sv r = 2 := by rw [adE_2 hok h2, if_neg hnn, if_pos (by rw [svEnts]; omega)]
          exact fun w' h => rf_no hx (by decide) h.fr
        ·
          first | (have h5 := of_decide_eq_true h5) | (have h5 := of_decide_eq_false h5) | skip
          have hx : adE S.sv r = 0 := by rw [adE_2 hok h2, if_neg hnn, if_neg (by rw [svEnts]; omega)]
          have hx2 : adE ({ S with a := s1, b := s2, es := gs } : SvS).sv r = 0 := by rw [hsv]; exact hx
          refine J_skip ?_
          change J _ _ _ _
          refine J_regionO (.pure 0 (.pure 2 (.pure 3 (.two 1 (.one 4 (.one 5 (.one 6 (.pure 7 (.one 8 (.nil)))))) 4 (.two 1 (.one 5 (.one 6 (.pure 7 (.one 8 (.nil))))) 5 (.one 1 (.one 6 (.pure 7 (.one 8 (.nil)))))))))) ([(b0, row 30 (svC S.t S.v S.sn S.a S.b (.slice s.1 S.es.length s.2) (.slice s3.1 S.gl.length s3.2))), (b1, row 45 (recX r ra rb rc rd)), (b2, row 30 ([.int .i64 0, .int .i64 0, .int .i64 0, .int .i64 0, .slice none 0 0, .slice none 0 0, .string ByteArray.empty, .slice none 0 0, .slice none 0 0]))]) _ (Pk.of_sub (List.Sublist.cons_cons _ (List.Sublist.cons_cons _ (List.Sublist.cons_cons _ (List.nil_sublist _))))) (fun f hf => hf) rfl rfl (by kernel_rfl) ?_
          refine LO_v rfl rfl rfl rfl (V_fieldAddr rfl rfl Try.underlying30 rfl sz27rf rfl) ?_
          refine LO_v rfl rfl rfl rfl (V_fieldAddr rfl rfl Try.underlying45 rfl sz39rf rfl) ?_
          refine LO_v rfl rfl rfl rfl (V_loadT 1 (vs := enX r.2.2.2.1 ra rb) rfl rfl rfl Try.underlying39 rfl sz39rf (by kernel_rfl) (by kernel_rfl)) ?_
          refine LO_both ?_ ?_
          ·
            refine LO_s rfl rfl rfl (S_v rfl rfl (V_load1 3 rfl rfl rfl Try.underlying27 rfl (by rfl)) ⟨(Pk.of_sub (List.Sublist.cons_cons _ (List.Sublist.cons_cons _ (List.Sublist.cons_cons _ (List.nil_sublist _))))), (fun f hf => hf), ?_⟩)
            refine LO_s rfl rfl rfl (S_call rfl rfl rfl tx17rf (fun w1 hw => (ownEntry_w r.2.2.2.1 ra rb w1 (hw.fa 1 rfl).l hB.1).mono ?_))
            rintro e w' ⟨n1, n2, rfl, hfr, hn1⟩
            have n9 : ∀ k, (clA r.2.2.2.1.2.2.2.2 n1 n2).fp k → w.heap.size ≤ k := fun k hk => Nat.le_trans hw.fr.size (hn1.new k hk)
            refine ⟨_, _, _, rfl, (hw.newN hfr hn1).deriv (f := allF (([(r.2.2.2.1, n1, n2)] : List EnV).map enA)) (fun f hf => by obtain rfl := List.mem_singleton.1 hf; exact hn1.fa.1) (fun k ⟨f, hf, hk⟩ => by obtain rfl := List.mem_singleton.1 hf; exact ⟨_, List.mem_append_right _ (List.mem_singleton.2 rfl), hk⟩), rfl, (Pk.of_sub (List.Sublist.cons_cons _ (List.Sublist.cons_cons _ (List.Sublist.cons_cons _ (List.nil_sublist _))))), (fun f hf => List.mem_append_left _ (List.mem_append_left _ (hf))), ?_⟩
            refine LO_s rfl rfl rfl (S_buildSlice (vs := [(0, .agg (enX r.2.2.2.1 n1 n2).toArray)]) (l := enX r.2.2.2.1 n1 n2) rfl rfl rfl rfl (bsE _ _ _) (fun b5 => ⟨(Pk.of_sub (List.Sublist.cons_cons _ (List.Sublist.cons_cons _ (List.Sublist.cons_cons _ (List.nil_sublist _))))), (fun f hf => List.mem_append_left _ (List.mem_append_left _ (hf))), ?_⟩))
            refine LO_s rfl rfl rfl (S_appendP ([(b0, row 30 (svX S s s3)), (b1, row 45 (recX r ra rb rc rd)), (b2, row 30 (svX SS0 spN spN)), (b3, row 30 (svR ({ S with a := s1, b := s2, es := gs } : SvS) q1 q3))]) (pM 43 q3 (kgS S) ++ [(b5, row 39 (enX r.2.2.2.1 n1 n2))]) q1 (gs.map enW).flatten (n := gs.length) (m := 1) (news := enX r.2.2.2.1 n1 n2) rfl rfl rfl rfl Try.underlying27 elE (by show ([(b0, row 30 (svX S s s3)), (b1, row 45 (recX r ra rb rc rd)), (b2, row 30 (svX SS0 spN spN)), (b3, row 30 (svR ({ S with a := s1, b := s2, es := gs } : SvS) q1 q3))] ++ (pM 39 q1 (gs.map enW).flatten ++ pM 43 q3 (kgS S))) ++ [_] = _; simp only [List.append_assoc]) hq1 (fun w1 hw => src_C Try.underlying27 (SlC.in (r := []) (fz := (0, 0)) hw (List.mem_append_right _ (List.mem_singleton.2 rfl)) rfl 1) (all_one (by kernel_rfl))) (by omega) (by omega) (fun q' hq' => ⟨(Pk.of_sub (List.Sublist.cons_cons _ (List.Sublist.cons_cons _ (List.Sublist.cons_cons _ (List.nil_sublist _))))), (fun f hf => List.mem_append_left _ (List.mem_append_left _ (hf))), ?_⟩))
            refine LO_v rfl rfl rfl rfl (V_fieldAddr rfl rfl Try.underlying30 rfl sz27rf rfl) ?_
            refine LO_s rfl rfl rfl (S_store1 3 (l' := svC S.t S.v S.sn s1 s2 (.slice (pA q') (gs.length + 1) (pC q')) (.slice (pA q3) S.gl.length (pC q3))) rfl rfl rfl rfl rfl rfl sz27rf (Nat.le_of_ble_eq_true (by kernel_rfl)) (by kernel_rfl) ⟨(Pk.of_sub (List.Sublist.cons_cons _ (List.Sublist.cons_cons _ (List.Sublist.cons_cons _ (List.nil_sublist _))))), (fun f hf => List.mem_append_left _ (List.mem_append_left _ (hf))), ?_⟩)
            refine LO_nil ?_
            change J _ _ _ _
            refine J_seq ?_
            refine J_region ?_
            refine L_v rfl rfl rfl (V_loadT 3 (vs := svC S.t S.v S.sn s1 s2 (.slice (pA q') (gs.length + 1) (pC q')) (.slice (pA q3) S.gl.length (pC q3))) rfl rfl rfl Try.underlying30 rfl sz30rf (by kernel_rfl) (by kernel_rfl)) ?_
            refine L_storeW 2 rfl rfl rfl rfl rfl rfl (szd sz30rf (by kernel_rfl)) (all_one (by kernel_rfl)) (by kernel_rfl) ?_
            refine L_v rfl rfl rfl (V_assign rfl rfl) ?_
            refine L_nil ?_
            change J _ _ _ _
            refine J_ret ?_
            change Kret _ _ _ Exit.ret _
            refine ret2 rfl rfl (RV_c 2 rfl rfl Try.underlying30 rfl (szd sz30rf (by kernel_rfl))) (RV_t rfl) ?_
            have e9 : keS { ({ S with a := s1, b := s2, es := gs } : SvS) with es := gs ++ [(r.2.2.2.1, n1, n2)] } = (gs.map enW).flatten ++ (([(r.2.2.2.1, n1, n2)] : List EnV).map enW).flatten := by
              show ((gs ++ [(r.2.2.2.1, n1, n2)]).map enW).flatten = _
              rw [List.map_append, List.flatten_append]
            have l9 : ({ ({ S with a := s1, b := s2, es := gs } : SvS) with es := gs ++ [(r.2.2.2.1, n1, n2)] } : SvS).es.length = gs.length + 1 := List.length_append
            have hv9 : svC S.t S.v S.sn s1 s2 (.slice (pA q') (gs.length + 1) (pC q')) (.slice (pA q3) S.gl.length (pC q3)) = svR { ({ S with a := s1, b := s2, es := gs } : SvS) with es := gs ++ [(r.2.2.2.1, n1, n2)] } q' q3 := by
              show svC S.t S.v S.sn s1 s2 _ _ = svC S.t S.v S.sn s1 s2 (.slice (pA q') ({ ({ S with a := s1, b := s2, es := gs } : SvS) with es := gs ++ [(r.2.2.2.1, n1, n2)] } : SvS).es.length (pC q')) _
              rw [l9]
            exact fun w' h => rf_yes hgs hx n1 n2 q' q3 (adX_2 hx2 h2) hv9 (by rw [e9, l9]; exact hq') hq3 h rfl (fun p hp => by
              rw [e9] at hp
              rcases List.mem_append.1 hp with h1 | h1
              · exact List.mem_cons_of_mem _ (List.mem_cons_of_mem _ (List.mem_cons_of_mem _ (List.mem_cons_of_mem _ (List.mem_append_right [] (List.mem_append_left _ h1)))))
              · exact List.mem_cons_of_mem _ (List.mem_cons_of_mem _ (List.mem_cons_of_mem _ (List.mem_cons_of_mem _ (List.mem_append_right [] (List.mem_append_right _ (List.mem_append_left _ h1))))))) (fun f hf => by
              rw [adGA_2 hx2 h2] at hf
              rcases List.mem_append.1 hf with h1 | h1
              · exact List.mem_append_left _ (List.mem_append_left _ (List.mem_append_right _ h1))
              · exact List.mem_append_right _ h1) (fun f hf k hk => by
              rw [adGA_2 hx2 h2] at hf
              rcases List.mem_append.1 hf with h1 | h1
              · exact n1' f h1 k hk
              · obtain rfl := List.mem_singleton.1 h1
                obtain ⟨g, hg, hk⟩ := hk
                obtain rfl := List.mem_singleton.1 hg
                exact n9 k hk)
          ·
            refine LO_s rfl rfl rfl (S_call rfl rfl rfl tx17rf (fun w1 hw => (ownEntry_w r.2.2.2.1 ra rb w1 (hw.fa 1 rfl).l hB.1).mono ?_))
            rintro e w' ⟨n1, n2, rfl, hfr, hn1⟩
            have n9 : ∀ k, (clA r.2.2.2.1.2.2.2.2 n1 n2).fp k → w.heap.size ≤ k := fun k hk => Nat.le_trans hw.fr.size (hn1.new k hk)
            refine ⟨_, _, _, rfl, (hw.newN hfr hn1).deriv (f := allF (([(r.2.2.2.1, n1, n2)] : List EnV).map enA)) (fun f hf => by obtain rfl := List.mem_singleton.1 hf; exact hn1.fa.1) (fun k ⟨f, hf, hk⟩ => by obtain rfl := List.mem_singleton.1 hf; exact ⟨_, List.mem_append_right _ (List.mem_singleton.2 rfl), hk⟩), rfl, (Pk.of_sub (List.Sublist.cons_cons _ (List.Sublist.cons_cons _ (List.Sublist.cons_cons _ (List.nil_sublist _))))), (fun f hf => List.mem_append_left _ (List.mem_append_left _ (hf))), ?_⟩
            refine LO_both ?_ ?_
            ·
              refine LO_s rfl rfl rfl (S_v rfl rfl (V_load1 3 rfl rfl rfl Try.underlying27 rfl (by rfl)) ⟨(Pk.of_sub (List.Sublist.cons_cons _ (List.Sublist.cons_cons _ (List.Sublist.cons_cons _ (List.nil_sublist _))))), (fun f hf => List.mem_append_left _ (List.mem_append_left _ (hf))), ?_⟩)
              refine LO_s rfl rfl rfl (S_buildSlice (vs := [(0, .agg (enX r.2.2.2.1 n1 n2).toArray)]) (l := enX r.2.2.2.1 n1 n2) rfl rfl rfl rfl (bsE _ _ _) (fun b5 => ⟨(Pk.of_sub (List.Sublist.cons_cons _ (List.Sublist.cons_cons _ (List.Sublist.cons_cons _ (List.nil_sublist _))))), (fun f hf => List.mem_append_left _ (List.mem_append_left _ (hf))), ?_⟩))
              refine LO_s rfl rfl rfl (S_appendP ([(b0, row 30 (svX S s s3)), (b1, row 45 (recX r ra rb rc rd)), (b2, row 30 (svX SS0 spN spN)), (b3, row 30 (svR ({ S with a := s1, b := s2, es := gs } : SvS) q1 q3))]) (pM 43 q3 (kgS S) ++ [(b5, row 39 (enX r.2.2.2.1 n1 n2))]) q1 (gs.map enW).flatten (n := gs.length) (m := 1) (news := enX r.2.2.2.1 n1 n2) rfl rfl rfl rfl Try.underlying27 elE (by show ([(b0, row 30 (svX S s s3)), (b1, row 45 (recX r ra rb rc rd)), (b2, row 30 (svX SS0 spN spN)), (b3, row 30 (svR ({ S with a := s1, b := s2, es := gs } : SvS) q1 q3))] ++ (pM 39 q1 (gs.map enW).flatten ++ pM 43 q3 (kgS S))) ++ [_] = _; simp only [List.append_assoc]) hq1 (fun w1 hw => src_C Try.underlying27 (SlC.in (r := []) (fz := (0, 0)) hw (List.mem_append_right _ (List.mem_singleton.2 rfl)) rfl 1) (all_one (by kernel_rfl))) (by omega) (by omega) (fun q' hq' => ⟨(Pk.of_sub (List.Sublist.cons_cons _ (List.Sublist.cons_cons _ (List.Sublist.cons_cons _ (List.nil_sublist _))))), (fun f hf => List.mem_append_left _ (List.mem_append_left _ (hf))), ?_⟩))
              refine LO_v rfl rfl rfl rfl (V_fieldAddr rfl rfl Try.underlying30 rfl sz27rf rfl) ?_
              refine LO_s rfl rfl rfl (S_store1 3 (l' := svC S.t S.v S.sn s1 s2 (.slice (pA q') (gs.length + 1) (pC q')) (.slice (pA q3) S.gl.length (pC q3))) rfl rfl rfl rfl rfl rfl sz27rf (Nat.le_of_ble_eq_true (by kernel_rfl)) (by kernel_rfl) ⟨(Pk.of_sub (List.Sublist.cons_cons _ (List.Sublist.cons_cons _ (List.Sublist.cons_cons _ (List.nil_sublist _))))), (fun f hf => List.mem_append_left _ (List.mem_append_left _ (hf))), ?_⟩)
              refine LO_nil ?_
              change J _ _ _ _
              refine J_seq ?_
              refine J_region ?_
              refine L_v rfl rfl rfl (V_loadT 3 (vs := svC S.t S.v S.sn s1 s2 (.slice (pA q') (gs.length + 1) (pC q')) (.slice (pA q3) S.gl.length (pC q3))) rfl rfl rfl Try.underlying30 rfl sz30rf (by kernel_rfl) (by kernel_rfl)) ?_
              refine L_storeW 2 rfl rfl rfl rfl rfl rfl (szd sz30rf (by kernel_rfl)) (all_one (by kernel_rfl)) (by kernel_rfl) ?_
              refine L_v rfl rfl rfl (V_assign rfl rfl) ?_
              refine L_nil ?_
              change J _ _ _ _
              refine J_ret ?_
              change Kret _ _ _ Exit.ret _
              refine ret2 rfl rfl (RV_c 2 rfl rfl Try.underlying30 rfl (szd sz30rf (by kernel_rfl))) (RV_t rfl) ?_
              have e9 : keS { ({ S with a := s1, b := s2, es := gs } : SvS) with es := gs ++ [(r.2.2.2.1, n1, n2)] } = (gs.map enW).flatten ++ (([(r.2.2.2.1, n1, n2)] : List EnV).map enW).flatten := by
                show ((gs ++ [(r.2.2.2.1, n1, n2)]).map enW).flatten = _
                rw [List.map_append, List.flatten_append]
              have l9 : ({ ({ S with a := s1, b := s2, es := gs } : SvS) with es := gs ++ [(r.2.2.2.1, n1, n2)] } : SvS).es.length = gs.length + 1 := List.length_append
              have hv9 : svC S.t S.v S.sn s1 s2 (.slice (pA q') (gs.length + 1) (pC q')) (.slice (pA q3) S.gl.length (pC q3)) = svR { ({ S with a := s1, b := s2, es := gs } : SvS) with es := gs ++ [(r.2.2.2.1, n1, n2)] } q' q3 := by
                show svC S.t S.v S.sn s1 s2 _ _ = svC S.t S.v S.sn s1 s2 (.slice (pA q') ({ ({ S with a := s1, b := s2, es := gs } : SvS) with es := gs ++ [(r.2.2.2.1, n1, n2)] } : SvS).es.length (pC q')) _
                rw [l9]
              exact fun w' h => rf_yes hgs hx n1 n2 q' q3 (adX_2 hx2 h2) hv9 (by rw [e9, l9]; exact hq') hq3 h rfl (fun p hp => by
                rw [e9] at hp
                rcases List.mem_append.1 hp with h1 | h1
                · exact List.mem_cons_of_mem _ (List.mem_cons_of_mem _ (List.mem_cons_of_mem _ (List.mem_cons_of_mem _ (List.mem_append_right [] (List.mem_append_left _ h1)))))
                · exact List.mem_cons_of_mem _ (List.mem_cons_of_mem _ (List.mem_cons_of_mem _ (List.mem_cons_of_mem _ (List.mem_append_right [] (List.mem_append_right _ (List.mem_append_left _ h1))))))) (fun f hf => by
                rw [adGA_2 hx2 h2] at hf
                rcases List.mem_append.1 hf with h1 | h1
                · exact List.mem_append_left _ (List.mem_append_left _ (List.mem_append_right _ h1))
                · exact List.mem_append_right _ h1) (fun f hf k hk => by
                rw [adGA_2 hx2 h2] at hf
                rcases List.mem_append.1 hf with h1 | h1
                · exact n1' f h1 k hk
                · obtain rfl := List.mem_singleton.1 h1
                  obtain ⟨g, hg, hk⟩ := hk
                  obtain rfl := List.mem_singleton.1 hg
                  exact n9 k hk)
            ·
              refine LO_s rfl rfl rfl (S_buildSlice (vs := [(0, .agg (enX r.2.2.2.1 n1 n2).toArray)]) (l := enX r.2.2.2.1 n1 n2) rfl rfl rfl rfl (bsE _ _ _) (fun b5 => ⟨(Pk.of_sub (List.Sublist.cons_cons _ (List.Sublist.cons_cons _ (List.Sublist.cons_cons _ (List.nil_sublist _))))), (fun f hf => List.mem_append_left _ (List.mem_append_left _ (hf))), ?_⟩))
              refine LO_s rfl rfl rfl (S_v rfl rfl (V_load1 3 rfl rfl rfl Try.underlying27 rfl (by rfl)) ⟨(Pk.of_sub (List.Sublist.cons_cons _ (List.Sublist.cons_cons _ (List.Sublist.cons_cons _ (List.nil_sublist _))))), (fun f hf => List.mem_append_left _ (List.mem_append_left _ (hf))), ?_⟩)
              refine LO_s rfl rfl rfl (S_appendP ([(b0, row 30 (svX S s s3)), (b1, row 45 (recX r ra rb rc rd)), (b2, row 30 (svX SS0 spN spN)), (b3, row 30 (svR ({ S with a := s1, b := s2, es := gs } : SvS) q1 q3))]) (pM 43 q3 (kgS S) ++ [(b5, row 39 (enX r.2.2.2.1 n1 n2))]) q1 (gs.map enW).flatten (n := gs.length) (m := 1) (news := enX r.2.2.2.1 n1 n2) rfl rfl rfl rfl Try.underlying27 elE (by show ([(b0, row 30 (svX S s s3)), (b1, row 45 (recX r ra rb rc rd)), (b2, row 30 (svX SS0 spN spN)), (b3, row 30 (svR ({ S with a := s1, b := s2, es := gs } : SvS) q1 q3))] ++ (pM 39 q1 (gs.map enW).flatten ++ pM 43 q3 (kgS S))) ++ [_] = _; simp only [List.append_assoc]) hq1 (fun w1 hw => src_C Try.underlying27 (SlC.in (r := []) (fz := (0, 0)) hw (List.mem_append_right _ (List.mem_singleton.2 rfl)) rfl 1) (all_one (by kernel_rfl))) (by omega) (by omega) (fun q' hq' => ⟨(Pk.of_sub (List.Sublist.cons_cons _ (List.Sublist.cons_cons _ (List.Sublist.cons_cons _ (List.nil_sublist _))))), (fun f hf => List.mem_append_left _ (List.mem_append_left _ (hf))), ?_⟩))
              refine LO_v rfl rfl rfl rfl (V_fieldAddr rfl rfl Try.underlying30 rfl sz27rf rfl) ?_
              refine LO_s rfl rfl rfl (S_store1 3 (l' := svC S.t S.v S.sn s1 s2 (.slice (pA q') (gs.length + 1) (pC q')) (.slice (pA q3) S.gl.length (pC q3))) rfl rfl rfl rfl rfl rfl sz27rf (Nat.le_of_ble_eq_true (by kernel_rfl)) (by kernel_rfl) ⟨(Pk.of_sub (List.Sublist.cons_cons _ (List.Sublist.cons_cons _ (List.Sublist.cons_cons _ (List.nil_sublist _))))), (fun f hf => List.mem_append_left _ (List.mem_append_left _ (hf))), ?_⟩)
              refine LO_nil ?_
              change J _ _ _ _
              refine J_seq ?_
              refine J_region ?_
              refine L_v rfl rfl rfl (V_loadT 3 (vs := svC S.t S.v S.sn s1 s2 (.slice (pA q') (gs.length + 1) (pC q')) (.slice (pA q3) S.gl.length (pC q3))) rfl rfl rfl Try.underlying30 rfl sz30rf (by kernel_rfl) (by kernel_rfl)) ?_
              refine L_storeW 2 rfl rfl rfl rfl rfl rfl (szd sz30rf (by kernel_rfl)) (all_one (by kernel_rfl)) (by kernel_rfl) ?_
              refine L_v rfl rfl rfl (V_assign rfl rfl) ?_
              refine L_nil ?_
              change J _ _ _ _
              refine J_ret ?_
              change Kret _ _ _ Exit.ret _
              refine ret2 rfl rfl (RV_c 2 rfl rfl Try.underlying30 rfl (szd sz30rf (by kernel_rfl))) (RV_t rfl) ?_
              have e9 : keS { ({ S with a := s1, b := s2, es := gs } : SvS) with es := gs ++ [(r.2.2.2.1, n1, n2)] } = (gs.map enW).flatten ++ (([(r.2.2.2.1, n1, n2)] : List EnV).map enW).flatten := by
                show ((gs ++ [(r.2.2.2.1, n1, n2)]).map enW).flatten = _
                rw [List.map_append, List.flatten_append]
              have l9 : ({ ({ S with a := s1, b := s2, es := gs } : SvS) with es := gs ++ [(r.2.2.2.1, n1, n2)] } : SvS).es.length = gs.length + 1 := List.length_append
              have hv9 : svC S.t S.v S.sn s1 s2 (.slice (pA q') (gs.length + 1) (pC q')) (.slice (pA q3) S.gl.length (pC q3)) = svR { ({ S with a := s1, b := s2, es := gs } : SvS) with es := gs ++ [(r.2.2.2.1, n1, n2)] } q' q3 := by
                show svC S.t S.v S.sn s1 s2 _ _ = svC S.t S.v S.sn s1 s2 (.slice (pA q') ({ ({ S with a := s1, b := s2, es := gs } : SvS) with es := gs ++ [(r.2.2.2.1, n1, n2)] } : SvS).es.length (pC q')) _
                rw [l9]
              exact fun w' h => rf_yes hgs hx n1 n2 q' q3 (adX_2 hx2 h2) hv9 (by rw [e9, l9]; exact hq') hq3 h rfl (fun p hp => by
                rw [e9] at hp
                rcases List.mem_append.1 hp with h1 | h1
                · exact List.mem_cons_of_mem _ (List.mem_cons_of_mem _ (List.mem_cons_of_mem _ (List.mem_cons_of_mem _ (List.mem_append_right [] (List.mem_append_left _ h1)))))
                · exact List.mem_cons_of_mem _ (List.mem_cons_of_mem _ (List.mem_cons_of_mem _ (List.mem_cons_of_mem _ (List.mem_append_right [] (List.mem_append_right _ (List.mem_append_left _ h1))))))) (fun f hf => by
                rw [adGA_2 hx2 h2] at hf
                rcases List.mem_append.1 hf with h1 | h1
                · exact List.mem_append_left _ (List.mem_append_left _ (List.mem_append_right _ h1))
                · exact List.mem_append_right _ h1) (fun f hf k hk => by
                rw [adGA_2 hx2 h2] at hf
                rcases List.mem_append.1 hf with h1 | h1
                · exact n1' f h1 k hk
                · obtain rfl := List.mem_singleton.1 h1
                  obtain ⟨g, hg, hk⟩ := hk
                  obtain rfl := List.mem_singleton.1 hg
                  exact n9 k hk)
    ·
      first | (have h2 := of_decide_eq_true h2) | (have h2 := of_decide_eq_false h2) | skip
      refine J_seq ?_
      refine J_region ?_
      refine L_v rfl rfl rfl (V_eql rfl rfl rfl (by first | exact decide_eq_true (by omega) | exact decide_eq_false (by omega) | rfl)) ?_
      refine L_v rfl rfl rfl (V_assign rfl rfl) ?_
      refine L_nil ?_
      change J _ _ _ _
      refine J_cond rfl (fun h3 => ?_) (fun h3 => ?_)
      ·
        first | (have h3 := of_decide_eq_true h3) | (have h3 := of_decide_eq_false h3) | skip
        refine J_seq ?_
        refine J_seq ?_
        refine J_region ?_
        refine L_v rfl rfl rfl (V_fieldAddr rfl rfl Try.underlying45 rfl sz3rf rfl) ?_
        refine L_v rfl rfl rfl (V_load1 1 rfl rfl rfl Try.underlying3 rfl (by rfl)) ?_
        refine L_v rfl rfl rfl (V_fieldAddr rfl rfl Try.underlying30 rfl sz26rf rfl) ?_
        refine L_v rfl rfl rfl (V_fieldAddr rfl rfl Try.underlying26 rfl sz3rf rfl) ?_
        refine L_v rfl rfl rfl (V_load1 0 rfl rfl rfl Try.underlying3 rfl (by rfl)) ?_
        refine L_v rfl rfl rfl (V_leq rfl rfl rfl (by first | exact decide_eq_true (by omega) | exact decide_eq_false (by omega) | rfl)) ?_
        refine L_v rfl rfl rfl (V_move rfl rfl) ?_
        apply L_or 4 116 121
        · rfl
        · rfl
        · rfl
        · rfl
        · rfl
        · rfl
        · rfl
        · kernel_rfl
        · intro hb4 _ _ hk4
          refine L_wv rfl rfl rfl rfl rfl rfl (V_fieldAddr rfl rfl Try.underlying45 rfl sz3rf rfl) ?_
          refine L_wv rfl rfl rfl rfl rfl rfl (V_load1 1 rfl rfl rfl Try.underlying3 rfl (by rfl)) ?_
          refine L_wv rfl rfl rfl rfl rfl rfl (V_move rfl rfl) ?_
          refine L_wv rfl rfl rfl rfl rfl rfl (V_gtr rfl rfl rfl (by first | exact decide_eq_true (by omega) | exact decide_eq_false (by omega) | rfl)) ?_
          exact hk4 _ ⟨rfl, rfl, rfl, rfl, ext_cut 4 (by kernel_rfl) (by kernel_rfl)⟩
        refine L_nil ?_
        change J _ _ _ _
        refine J_cond rfl (fun h5 => ?_) (fun h5 => ?_)
        ·
          first | (have h5 := of_decide_eq_true h5) | (have h5 := of_decide_eq_false h5) | skip
          refine J_seq ?_
          refine J_region ?_
          refine L_callV rfl rfl rfl rfl rfl rfl tx24rf (fun w1 hw => no_w _ w1) ?_
          refine L_v rfl rfl rfl (V_extract rfl rfl rfl) ?_
          refine L_v rfl rfl rfl (V_extract rfl rfl rfl) ?_
          refine L_storeW 2 rfl rfl rfl rfl rfl rfl (szd sz30rf (by kernel_rfl)) (all_one (by kernel_rfl)) (by kernel_rfl) ?_
          refine L_v rfl rfl rfl (V_assign rfl rfl) ?_
          refine L_nil ?_
          change J _ _ _ _
          refine J_ret ?_
          change Kret _ _ _ Exit.ret _
          refine ret2 rfl rfl (RV_c 2 rfl rfl Try.underlying30 rfl (szd sz30rf (by kernel_rfl))) (RV_t rfl) ?_
          have hx : adE S.sv r = 110 := by rw [adE_3 hok h3, if_pos (show r.2.2.2.2.1 ≤ S.sv.snap.1 ∨ lastS S.sv < r.2.2.2.2.1 from by simp only [Bool.or_eq_true, decide_eq_true_eq] at h5; rw [svLast]; exact h5)]
          exact fun w' h => rf_no hx (by decide) h.fr
        ·
          first | (have h5 := of_decide_eq_true h5) | (have h5 := of_decide_eq_false h5) | skip
          simp only [Bool.or_eq_false_iff, decide_eq_false_iff_not] at h5
          obtain ⟨h8, h9⟩ := h5
          have hx : adE S.sv r = 0 := by rw [adE_3 hok h3, if_neg (fun hh => hh.elim h8 (fun h => h9 (by rw [svLast] at h; exact h)))]
          have hx2 : adE ({ S with a := s1, b := s2, es := gs } : SvS).sv r = 0 := by rw [hsv]; exact hx
          refine J_skip ?_
          change J _ _ _ _
          refine J_region ?_
          refine L_v rfl rfl rfl (V_fieldAddr rfl rfl Try.underlying30 rfl sz27rf rfl) ?_
          refine L_v rfl rfl rfl (V_load1 3 rfl rfl rfl Try.underlying27 rfl (by rfl)) ?_
          refine L_v rfl rfl rfl (V_fieldAddr rfl rfl Try.underlying45 rfl sz3rf rfl) ?_
          refine L_v rfl rfl rfl (V_load1 1 rfl rfl rfl Try.underlying3 rfl (by rfl)) ?_
          refine L_v rfl rfl rfl (V_fieldAddr rfl rfl Try.underlying30 rfl sz26rf rfl) ?_
          refine L_v rfl rfl rfl (V_fieldAddr rfl rfl Try.underlying26 rfl sz3rf rfl) ?_
          refine L_v rfl rfl rfl (V_load1 0 rfl rfl rfl Try.underlying3 rfl (by rfl)) ?_
          refine L_v rfl rfl rfl (V_sub rfl rfl rfl (by first | exact Go.IntWalk.i64_in _ (by omega) | rfl)) ?_
          refine L_v rfl rfl rfl (V_sub rfl rfl rfl (by first | exact Go.IntWalk.i64_in _ (by omega) | rfl)) ?_
          refine L_v rfl rfl rfl (V_slice0 rfl rfl Try.underlying27 sz39rf (Bd.at (v := (r.2.2.2.2.1 - S.sn.1 - 1).toNat) rfl (by omega)) rfl rfl (by omega) (by omega)) ?_
          refine L_v rfl rfl rfl (V_fieldAddr rfl rfl Try.underlying30 rfl sz27rf rfl) ?_
          refine L_store1 3 (l' := svC S.t S.v S.sn s1 s2 (.slice (pA q1) (r.2.2.2.2.1 - S.sn.1 - 1).toNat (pC q1)) (.slice (pA q3) S.gl.length (pC q3))) rfl rfl rfl rfl rfl rfl rfl sz27rf (Nat.le_of_ble_eq_true (by kernel_rfl)) (by kernel_rfl) ?_
          refine L_nil ?_
          change J _ _ _ _
          refine J_seq ?_
          refine J_region ?_
          refine L_v rfl rfl rfl (V_loadT 3 (vs := svC S.t S.v S.sn s1 s2 (.slice (pA q1) (r.2.2.2.2.1 - S.sn.1 - 1).toNat (pC q1)) (.slice (pA q3) S.gl.length (pC q3))) rfl rfl rfl Try.underlying30 rfl sz30rf (by kernel_rfl) (by kernel_rfl)) ?_
          refine L_storeW 2 rfl rfl rfl rfl rfl rfl (szd sz30rf (by kernel_rfl)) (all_one (by kernel_rfl)) (by kernel_rfl) ?_
          refine L_v rfl rfl rfl (V_assign rfl rfl) ?_
          refine L_nil ?_
          change J _ _ _ _
          refine J_ret ?_
          change Kret _ _ _ Exit.ret _
          refine ret2 rfl rfl (RV_c 2 rfl rfl Try.underlying30 rfl (szd sz30rf (by kernel_rfl))) (RV_t rfl) ?_
          have k9 : (r.2.2.2.2.1 - S.sn.1 - 1).toNat ≤ gs.length := by omega
          have l9 : (gs.take (r.2.2.2.2.1 - S.sn.1 - 1).toNat).length = (r.2.2.2.2.1 - S.sn.1 - 1).toNat := by rw [List.length_take]; omega
          have e9 : keS { ({ S with a := s1, b := s2, es := gs } : SvS) with es := gs.take (r.2.2.2.2.1 - S.sn.1 - 1).toNat } = (gs.map enW).flatten.take ((r.2.2.2.2.1 - S.sn.1 - 1).toNat * 43) := (rows_take enW (fun _ => rfl) gs _).symm
          have hv9 : svC S.t S.v S.sn s1 s2 (.slice (pA q1) (r.2.2.2.2.1 - S.sn.1 - 1).toNat (pC q1)) (.slice (pA q3) S.gl.length (pC q3)) = svR { ({ S with a := s1, b := s2, es := gs } : SvS) with es := gs.take (r.2.2.2.2.1 - S.sn.1 - 1).toNat } (pTake 43 (r.2.2.2.2.1 - S.sn.1 - 1).toNat (gs.map enW).flatten q1) q3 := by
            show svC S.t S.v S.sn s1 s2 _ _ = svC S.t S.v S.sn s1 s2 (pV (pTake 43 (r.2.2.2.2.1 - S.sn.1 - 1).toNat (gs.map enW).flatten q1) (gs.take (r.2.2.2.2.1 - S.sn.1 - 1).toNat).length) _
            rw [l9, pTake_V]
          exact fun w' h => rf_yes hgs hx spN spN (pTake 43 (r.2.2.2.2.1 - S.sn.1 - 1).toNat (gs.map enW).flatten q1) q3 (adX_3 hx2 h3) hv9 (by rw [e9]; show PC 43 _ (gs.take _).length _; rw [l9]; exact pTake_C hq1 k9) hq3 h rfl (fun p hp => by
            rw [e9, pTake_M] at hp
            exact List.mem_cons_of_mem _ (List.mem_cons_of_mem _ (List.mem_cons_of_mem _ (List.mem_cons_of_mem _ (List.mem_append_right [] hp))))) (fun f hf => by rw [(adGA_0 (by omega) (by omega)), List.append_nil] at hf; exact List.mem_append_right _ hf) (fun f hf => by rw [(adGA_0 (by omega) (by omega)), List.append_nil] at hf; exact n1' f hf)
      ·
        first | (have h3 := of_decide_eq_true h3) | (have h3 := of_decide_eq_false h3) | skip
        refine J_seq ?_
        refine J_region ?_
        refine L_v rfl rfl rfl (V_eql rfl rfl rfl (by first | exact decide_eq_true (by omega) | exact decide_eq_false (by omega) | rfl)) ?_
        refine L_v rfl rfl rfl (V_assign rfl rfl) ?_
        refine L_nil ?_
        change J _ _ _ _
        refine J_cond rfl (fun h4 => ?_) (fun h4 => ?_)
        ·
          first | (have h4 := of_decide_eq_true h4) | (have h4 := of_decide_eq_false h4) | skip
          refine J_seq ?_
          refine J_seq ?_
          refine J_region ?_
          refine L_v rfl rfl rfl (V_fieldAddr rfl rfl Try.underlying45 rfl sz26rf rfl) ?_
          refine L_v rfl rfl rfl (V_fieldAddr rfl rfl Try.underlying26 rfl sz3rf rfl) ?_
          refine L_v rfl rfl rfl (V_load1 1 rfl rfl rfl Try.underlying3 rfl (by rfl)) ?_
          refine L_v rfl rfl rfl (V_fieldAddr rfl rfl Try.underlying30 rfl sz26rf rfl) ?_
          refine L_v rfl rfl rfl (V_fieldAddr rfl rfl Try.underlying26 rfl sz3rf rfl) ?_
          refine L_v rfl rfl rfl (V_load1 0 rfl rfl rfl Try.underlying3 rfl (by rfl)) ?_
          refine L_v rfl rfl rfl (V_leq rfl rfl rfl (by first | exact decide_eq_true (by omega) | exact decide_eq_false (by omega) | rfl)) ?_
          refine L_v rfl rfl rfl (V_move rfl rfl) ?_
          apply L_or 4 145 150
          · rfl
          · rfl
          · rfl
          · rfl
          · rfl
          · rfl
          · rfl
          · kernel_rfl
          · intro hb5 _ _ hk5
            refine L_wv rfl rfl rfl rfl rfl rfl (V_fieldAddr rfl rfl Try.underlying45 rfl sz26rf rfl) ?_
            refine L_wv rfl rfl rfl rfl rfl rfl (V_fieldAddr rfl rfl Try.underlying26 rfl sz3rf rfl) ?_
            refine L_wv rfl rfl rfl rfl rfl rfl (V_load1 1 rfl rfl rfl Try.underlying3 rfl (by rfl)) ?_
            refine L_wcallV rfl rfl rfl rfl rfl rfl rfl rfl rfl tx29rf (fun w1 hw => rfar_w _ w1) ?_
            exact hk5 _ ⟨rfl, rfl, rfl, rfl, ext_cut 4 (by kernel_rfl) (by kernel_rfl)⟩
          refine L_nil ?_
          change J _ _ _ _
          refine J_cond rfl (fun h6 => ?_) (fun h6 => ?_)
          ·
            first | (have h6 := of_decide_eq_true h6) | (have h6 := of_decide_eq_false h6) | skip
            refine J_seq ?_
            refine J_region ?_
            refine L_callV rfl rfl rfl rfl rfl rfl tx24rf (fun w1 hw => no_w _ w1) ?_
            refine L_v rfl rfl rfl (V_extract rfl rfl rfl) ?_
            refine L_v rfl rfl rfl (V_extract rfl rfl rfl) ?_
            refine L_storeW 2 rfl rfl rfl rfl rfl rfl (szd sz30rf (by kernel_rfl)) (all_one (by kernel_rfl)) (by kernel_rfl) ?_
            refine L_v rfl rfl rfl (V_assign rfl rfl) ?_
            refine L_nil ?_
            change J _ _ _ _
            refine J_ret ?_
            change Kret _ _ _ Exit.ret _
            refine ret2 rfl rfl (RV_c 2 rfl rfl Try.underlying30 rfl (szd sz30rf (by kernel_rfl))) (RV_t rfl) ?_
            have hx : adE S.sv r = 110 := by rw [adE_4 hok h4, if_pos (show r.2.2.2.2.2.1.1 ≤ S.sv.snap.1 ∨ far r.2.2.2.2.2.1.1 from by simp only [Bool.or_eq_true, decide_eq_true_eq] at h6; exact h6)]
            exact fun w' h => rf_no hx (by decide) h.fr
          ·
            first | (have h6 := of_decide_eq_true h6) | (have h6 := of_decide_eq_false h6) | skip
            simp only [Bool.or_eq_false_iff, decide_eq_false_iff_not] at h6
            obtain ⟨h8, h9⟩ := h6
            have hx4 : S.sn.1 < r.2.2.2.2.2.1.1 ∧ r.2.2.2.2.2.1.1 ≤ 900000000 := ⟨by omega, Int.not_lt.1 h9⟩
            have hx : adE S.sv r = 0 := by rw [adE_4 hok h4, if_neg (fun hh => hh.elim h8 h9)]
            have hx2 : adE ({ S with a := s1, b := s2, es := gs } : SvS).sv r = 0 := by rw [hsv]; exact hx
            refine J_skip ?_
            change J _ _ _ _
            refine J_seq ?_
            refine J_region ?_
            refine L_v rfl rfl rfl (V_loadT 3 (vs := svR ({ S with a := s1, b := s2, es := gs } : SvS) q1 q3) rfl rfl rfl Try.underlying30 rfl sz30rf (by kernel_rfl) (by kernel_rfl)) ?_
            refine L_v rfl rfl rfl (V_fieldAddr rfl rfl Try.underlying45 rfl sz26rf rfl) ?_
            refine L_v rfl rfl rfl (V_loadT 1 (vs := snX r.2.2.2.2.2.1 rc rd) rfl rfl rfl Try.underlying26 rfl sz26rf (by kernel_rfl) (by kernel_rfl)) ?_
            refine L_call rfl rfl rfl rfl tx49rf (fun w1 hw => (behind_w ({ S with a := s1, b := s2, es := gs } : SvS) (pA q1, pC q1) (pA q3, pC q3) r.2.2.2.2.2.1 rc rd w1 (FA.slc (hq1.slC hw (fun p hp => List.mem_append_right _ (List.mem_append_left _ hp)))) hgoS hle1 (by show gs.length ≤ 9000; omega) ⟨hS3, hS4⟩ hx4).mono ?_)
            rintro e w' ⟨V, rfl, hfr, hV⟩
            obtain ⟨q2, rfl, hq2, hm2⟩ := behind_P hq1 hV
            refine ⟨_, _, _, rfl, hw.fr0 hfr, rfl, ?_⟩
            refine L_v rfl rfl rfl (V_fieldAddr rfl rfl Try.underlying30 rfl sz27rf rfl) ?_
            refine L_store1 3 (l' := svC S.t S.v S.sn s1 s2 (.slice (pA q2) (gs.length - (cutE r.2.2.2.2.2.1 gs)) (pC q2)) (.slice (pA q3) S.gl.length (pC q3))) rfl rfl rfl rfl rfl rfl rfl sz27rf (Nat.le_of_ble_eq_true (by kernel_rfl)) (by kernel_rfl) ?_
            refine L_nil ?_
            change J _ _ _ _
            refine J_region ?_
            refine L_v rfl rfl rfl (V_fieldAddr rfl rfl Try.underlying45 rfl sz26rf rfl) ?_
            refine L_v rfl rfl rfl (V_loadT 1 (vs := snX r.2.2.2.2.2.1 rc rd) rfl rfl rfl Try.underlying26 rfl sz26rf (by kernel_rfl) (by kernel_rfl)) ?_
            refine L_call rfl rfl rfl rfl tx16rf (fun w1 hw => (ownSnap_w r.2.2.2.2.2.1 rc rd w1 (hw.fa 1 rfl).r hB.2).mono ?_)
            rintro e w' ⟨n1, n2, rfl, hfr, hn1⟩
            have n9 : ∀ k, (clA r.2.2.2.2.2.1.2.2.1 n1 n2).fp k → w.heap.size ≤ k := fun k hk => Nat.le_trans hw.fr.size (hn1.new k hk)
            refine ⟨_, _, _, rfl, hw.newN hfr hn1, rfl, ?_⟩
            refine L_v rfl rfl rfl (V_fieldAddr rfl rfl Try.underlying30 rfl sz26rf rfl) ?_
            refine L_storeT 3 (l' := svC S.t S.v r.2.2.2.2.2.1 n1 n2 (.slice (pA q2) (gs.length - (cutE r.2.2.2.2.2.1 gs)) (pC q2)) (.slice (pA q3) S.gl.length (pC q3))) rfl rfl rfl rfl rfl rfl (szd sz26rf (by kernel_rfl)) (all_one (by kernel_rfl)) (Nat.le_of_ble_eq_true (by kernel_rfl)) (by kernel_rfl) ?_
            refine L_nil ?_
            change J _ _ _ _
            refine J_seq ?_
            refine J_region ?_
            refine L_v rfl rfl rfl (V_loadT 3 (vs := svC S.t S.v r.2.2.2.2.2.1 n1 n2 (.slice (pA q2) (gs.length - (cutE r.2.2.2.2.2.1 gs)) (pC q2)) (.slice (pA q3) S.gl.length (pC q3))) rfl rfl rfl Try.underlying30 rfl sz30rf (by kernel_rfl) (by kernel_rfl)) ?_
            refine L_storeW 2 rfl rfl rfl rfl rfl rfl (szd sz30rf (by kernel_rfl)) (all_one (by kernel_rfl)) (by kernel_rfl) ?_
            refine L_v rfl rfl rfl (V_assign rfl rfl) ?_
            refine L_nil ?_
            change J _ _ _ _
            refine J_ret ?_
            change Kret _ _ _ Exit.ret _
            refine ret2 rfl rfl (RV_c 2 rfl rfl Try.underlying30 rfl (szd sz30rf (by kernel_rfl))) (RV_t rfl) ?_
            have l9 : (gs.drop (cutE r.2.2.2.2.2.1 gs)).length = gs.length - (cutE r.2.2.2.2.2.1 gs) := List.length_drop
            have e9 : keS { ({ S with a := s1, b := s2, es := gs } : SvS) with es := gs.drop (cutE r.2.2.2.2.2.1 gs), sn := r.2.2.2.2.2.1, a := n1, b := n2 } = (gs.map enW).flatten.drop ((cutE r.2.2.2.2.2.1 gs) * 43) := (rows_drop enW (fun _ => rfl) gs _).symm
            have hv9 : svC S.t S.v r.2.2.2.2.2.1 n1 n2 (.slice (pA q2) (gs.length - (cutE r.2.2.2.2.2.1 gs)) (pC q2)) (.slice (pA q3) S.gl.length (pC q3)) = svR { ({ S with a := s1, b := s2, es := gs } : SvS) with es := gs.drop (cutE r.2.2.2.2.2.1 gs), sn := r.2.2.2.2.2.1, a := n1, b := n2 } q2 q3 := by
              show svC S.t S.v r.2.2.2.2.2.1 n1 n2 _ _ = svC S.t S.v r.2.2.2.2.2.1 n1 n2 (.slice (pA q2) (gs.drop (cutE r.2.2.2.2.2.1 gs)).length (pC q2)) _
              rw [l9]
            exact fun w' h => rf_yes hgs hx n1 n2 q2 q3 (adX_4 hx2 h4) hv9 (by rw [e9]; show PC 43 _ (gs.drop _).length _; rw [l9]; exact hq2) hq3 h rfl (fun p hp => by
              rw [e9] at hp
              rcases List.mem_append.1 hp with h1 | h1
              · exact List.mem_cons_of_mem _ (List.mem_cons_of_mem _ (List.mem_cons_of_mem _ (List.mem_cons_of_mem _ (List.mem_append_right [] (List.mem_append_left _ (hm2 p h1))))))
              · exact List.mem_cons_of_mem _ (List.mem_cons_of_mem _ (List.mem_cons_of_mem _ (List.mem_cons_of_mem _ (List.mem_append_right [] (List.mem_append_right _ h1)))))) (fun f hf => by
              rw [adGA_4 hx2 h4] at hf
              rcases List.mem_append.1 hf with h1 | h1
              · exact List.mem_append_left _ (List.mem_append_right _ h1)
              · exact List.mem_append_right _ h1) (fun f hf k hk => by
              rw [adGA_4 hx2 h4] at hf
              rcases List.mem_append.1 hf with h1 | h1
              · exact n1' f h1 k hk
              · obtain rfl := List.mem_singleton.1 h1
                exact n9 k hk)
        ·
          first | (have h4 := of_decide_eq_true h4) | (have h4 := of_decide_eq_false h4) | skip
          have k5 : r.1 = 5 := by rcases may_kind hok.2 with h | h | h | h | h <;> first | contradiction | exact h
          refine J_seq ?_
          refine J_region ?_
          refine L_v rfl rfl rfl (V_fieldAddr rfl rfl Try.underlying30 rfl sz28rf rfl) ?_
          refine L_v rfl rfl rfl (V_load1 0 rfl rfl rfl Try.underlying28 rfl (by rfl)) ?_
          refine L_v rfl rfl rfl (V_len rfl rfl Try.underlying28 rfl) ?_
          refine L_v rfl rfl rfl (V_assign rfl rfl) ?_
          refine L_nil ?_
          change J _ _ _ _
          refine J_seq ?_
          refine J_seq ?_
          refine J_regionQ rfl (by kernel_rfl) ?_
          refine LQ_v rfl rfl rfl (V_move rfl rfl) ?_
          refine LQ_v rfl rfl rfl (V_gtr rfl rfl rfl (by first | exact decide_eq_true (by omega) | exact decide_eq_false (by omega) | rfl)) ?_
          refine LQ_v rfl rfl rfl (V_move rfl rfl) ?_
          refine LQ_split 20 rfl (fun h5 => ?_) (fun h5 => ?_)
          ·
            first | (have h5 := of_decide_eq_true h5) | (have h5 := of_decide_eq_false h5) | skip
            refine LQ_wv rfl rfl rfl rfl rfl rfl (V_fieldAddr rfl rfl Try.underlying30 rfl sz28rf rfl) ?_
            refine LQ_wv rfl rfl rfl rfl rfl rfl (V_load1 0 rfl rfl rfl Try.underlying28 rfl (by rfl)) ?_
            refine LQ_wv rfl rfl rfl rfl rfl rfl (V_move rfl rfl) ?_
            refine LQ_wv rfl rfl rfl rfl rfl rfl (V_sub (r := ((S.gl.length - 1 : Nat) : Int)) rfl rfl rfl (by rw [IntKind.wrap_i64]; omega)) ?_
            refine LQ_wv rfl rfl rfl rfl rfl rfl (V_indexC rfl rfl rfl Try.underlying28 sz43rf (fun w hw => (hw.fa 0 rfl).r.r.1) (by omega) (by omega)) ?_
            refine LQ_wv rfl rfl rfl rfl rfl rfl (V_fieldC rfl rfl (fun w hw => (let ⟨b, o, e, _⟩ := SlC.cell ((hw.fa 0 rfl).r.r.1) (rows_v (f := sgV) sg0 (i := S.gl.length - 1) (sz := 96) (fun _ => rfl) (by omega) 0 _ rfl); ⟨b, o, e⟩)) Try.underlying43 rfl sz41rf rfl) ?_
            refine LQ_wv rfl rfl rfl rfl rfl rfl (V_fieldC rfl rfl (fun w hw => (let ⟨b, o, e, _⟩ := SlC.cell ((hw.fa 0 rfl).r.r.1) (rows_v (f := sgV) sg0 (i := S.gl.length - 1) (sz := 96) (fun _ => rfl) (by omega) 0 _ rfl); ⟨b, o, e⟩)) Try.underlying41 rfl sz3rf rfl) ?_
            refine LQ_wv rfl rfl rfl rfl rfl rfl (V_loadC rfl rfl Try.underlying3 rfl (fun w hw => (hw.fa 0 rfl).r.r.1) (rows_v (f := sgV) sg0 (i := S.gl.length - 1) (sz := 96) (fun _ => rfl) (by omega) 0 _ rfl)) ?_
            refine LQ_wv rfl rfl rfl rfl rfl rfl (V_fieldAddr rfl rfl Try.underlying45 rfl sz43rf rfl) ?_
            refine LQ_wv rfl rfl rfl rfl rfl rfl (V_fieldAddr rfl rfl Try.underlying43 rfl sz41rf rfl) ?_
            refine LQ_wv rfl rfl rfl rfl rfl rfl (V_fieldAddr rfl rfl Try.underlying41 rfl sz3rf rfl) ?_
            refine LQ_wv rfl rfl rfl rfl rfl rfl (V_load1 1 rfl rfl rfl Try.underlying3 rfl (by rfl)) ?_
            refine LQ_wv rfl rfl rfl rfl rfl rfl (V_geq rfl rfl rfl (by first | exact decide_eq_true (by omega) | exact decide_eq_false (by omega) | rfl)) ?_
            first | refine LQ_v rfl rfl rfl (V_pickT rfl rfl rfl) ?_ | refine LQ_v rfl rfl rfl (V_pickF rfl rfl rfl) ?_
            refine LQ_nil ?_
            change J _ _ _ _
            refine J_cond rfl (fun h6 => ?_) (fun h6 => ?_)
            ·
              first | (have h6 := of_decide_eq_true h6) | (have h6 := of_decide_eq_false h6) | skip
              refine J_seq ?_
              refine J_region ?_
              refine L_callV rfl rfl rfl rfl rfl rfl tx24rf (fun w1 hw => no_w _ w1) ?_
              refine L_v rfl rfl rfl (V_extract rfl rfl rfl) ?_
              refine L_v rfl rfl rfl (V_extract rfl rfl rfl) ?_
              refine L_storeW 2 rfl rfl rfl rfl rfl rfl (szd sz30rf (by kernel_rfl)) (all_one (by kernel_rfl)) (by kernel_rfl) ?_
              refine L_v rfl rfl rfl (V_assign rfl rfl) ?_
              refine L_nil ?_
              change J _ _ _ _
              refine J_ret ?_
              change Kret _ _ _ Exit.ret _
              refine ret2 rfl rfl (RV_c 2 rfl rfl Try.underlying30 rfl (szd sz30rf (by kernel_rfl))) (RV_t rfl) ?_
              have hx : adE S.sv r = 110 := by rw [adE_5 hok k5, if_pos ⟨by show 0 < S.gl.length; omega, h6⟩]
              exact fun w' h => rf_no hx (by decide) h.fr
            ·
              first | (have h6 := of_decide_eq_true h6) | (have h6 := of_decide_eq_false h6) | skip
              refine J_skip ?_
              change J _ _ _ _
              refine J_seq ?_
              refine J_seq ?_
              refine J_region ?_
              refine L_v rfl rfl rfl (V_move rfl rfl) ?_
              refine L_v rfl rfl rfl (V_geq rfl rfl rfl (by first | exact decide_eq_true (by omega) | exact decide_eq_false (by omega) | rfl)) ?_
              refine L_nil ?_
              change J _ _ _ _
              refine J_cond rfl (fun h7 => ?_) (fun h7 => ?_)
              ·
                first | (have h7 := of_decide_eq_true h7) | (have h7 := of_decide_eq_false h7) | skip
                refine J_seq ?_
                refine J_region ?_
                refine L_callV rfl rfl rfl rfl rfl rfl tx24rf (fun w1 hw => no_w _ w1) ?_
                refine L_v rfl rfl rfl (V_extract rfl rfl rfl) ?_
                refine L_v rfl rfl rfl (V_extract rfl rfl rfl) ?_
                refine L_storeW 2 rfl rfl rfl rfl rfl rfl (szd sz30rf (by kernel_rfl)) (all_one (by kernel_rfl)) (by kernel_rfl) ?_
                refine L_v rfl rfl rfl (V_assign rfl rfl) ?_
                refine L_nil ?_
                change J _ _ _ _
                refine J_ret ?_
                change Kret _ _ _ Exit.ret _
                refine ret2 rfl rfl (RV_c 2 rfl rfl Try.underlying30 rfl (szd sz30rf (by kernel_rfl))) (RV_t rfl) ?_
                have hx : adE S.sv r = 2 := by rw [adE_5 hok k5, if_neg (fun hh => h6 hh.2), if_pos (by show S.gl.length = 200; omega)]
                exact fun w' h => rf_no hx (by decide) h.fr
              ·
                first | (have h7 := of_decide_eq_true h7) | (have h7 := of_decide_eq_false h7) | skip
                have hx : adE S.sv r = 0 := by rw [adE_5 hok k5, if_neg (fun hh => h6 hh.2), if_neg (by show ¬ S.gl.length = 200; omega)]
                have hx2 : adE ({ S with a := s1, b := s2, es := gs } : SvS).sv r = 0 := by rw [hsv]; exact hx
                refine J_skip ?_
                change J _ _ _ _
                refine J_region ?_
                refine L_v rfl rfl rfl (V_fieldAddr rfl rfl Try.underlying30 rfl sz28rf rfl) ?_
                refine L_v rfl rfl rfl (V_load1 3 rfl rfl rfl Try.underlying28 rfl (by rfl)) ?_
                refine L_v rfl rfl rfl (V_fieldAddr rfl rfl Try.underlying45 rfl sz43rf rfl) ?_
                refine L_v rfl rfl rfl (V_loadT 1 (vs := sgV r.2.2.2.2.2.2) rfl rfl rfl Try.underlying43 rfl sz43rf (by kernel_rfl) (by kernel_rfl)) ?_
                refine L_buildSlice (vs := [(0, .agg (sgV r.2.2.2.2.2.2).toArray)]) (l := sgV r.2.2.2.2.2.2) rfl rfl rfl rfl rfl (bsG _) (fun b5 => ?_)
                refine L_cons rfl (S_appendP ([(b0, row 30 (svX S s s3)), (b1, row 45 (recX r ra rb rc rd)), (b2, row 30 (svX SS0 spN spN)), (b3, row 30 (svR ({ S with a := s1, b := s2, es := gs } : SvS) q1 q3))] ++ pM 39 q1 (gs.map enW).flatten) [(b5, row 43 (sgV r.2.2.2.2.2.2))] q3 (kgS S) (n := S.gl.length) (m := 1) (news := sgV r.2.2.2.2.2.2) rfl rfl rfl rfl Try.underlying28 elG (by show ([(b0, row 30 (svX S s s3)), (b1, row 45 (recX r ra rb rc rd)), (b2, row 30 (svX SS0 spN spN)), (b3, row 30 (svR ({ S with a := s1, b := s2, es := gs } : SvS) q1 q3))] ++ (pM 39 q1 (gs.map enW).flatten ++ pM 43 q3 (kgS S))) ++ [_] = _; simp only [List.append_assoc]) hq3 (fun w1 hw => src_C Try.underlying28 (SlC.in (r := []) (fz := (0, 0)) hw (List.mem_append_right _ (List.mem_singleton.2 rfl)) rfl 1) (all_one (by kernel_rfl))) (by omega) (by omega) (fun q' hq' => ?_))
                refine L_v rfl rfl rfl (V_fieldAddr rfl rfl Try.underlying30 rfl sz28rf rfl) ?_
                refine L_store1 3 (l' := svC S.t S.v S.sn s1 s2 (.slice (pA q1) gs.length (pC q1)) (.slice (pA q') (S.gl.length + 1) (pC q'))) rfl rfl rfl rfl rfl rfl rfl sz28rf (Nat.le_of_ble_eq_true (by kernel_rfl)) (by kernel_rfl) ?_
                refine L_nil ?_
                change J _ _ _ _
                refine J_seq ?_
                refine J_region ?_
                refine L_v rfl rfl rfl (V_loadT 3 (vs := svC S.t S.v S.sn s1 s2 (.slice (pA q1) gs.length (pC q1)) (.slice (pA q') (S.gl.length + 1) (pC q'))) rfl rfl rfl Try.underlying30 rfl sz30rf (by kernel_rfl) (by kernel_rfl)) ?_
                refine L_storeW 2 rfl rfl rfl rfl rfl rfl (szd sz30rf (by kernel_rfl)) (all_one (by kernel_rfl)) (by kernel_rfl) ?_
                refine L_v rfl rfl rfl (V_assign rfl rfl) ?_
                refine L_nil ?_
                change J _ _ _ _
                refine J_ret ?_
                change Kret _ _ _ Exit.ret _
                refine ret2 rfl rfl (RV_c 2 rfl rfl Try.underlying30 rfl (szd sz30rf (by kernel_rfl))) (RV_t rfl) ?_
                have e9 : kgS { ({ S with a := s1, b := s2, es := gs } : SvS) with gl := S.gl ++ [r.2.2.2.2.2.2] } = kgS S ++ sgV r.2.2.2.2.2.2 := by
                  show ((S.gl ++ [r.2.2.2.2.2.2]).map sgV).flatten = _
                  rw [List.map_append, List.flatten_append, List.map_singleton, List.flatten_singleton]
                have l9 : ({ ({ S with a := s1, b := s2, es := gs } : SvS) with gl := S.gl ++ [r.2.2.2.2.2.2] } : SvS).gl.length = S.gl.length + 1 := List.length_append
                have hv9 : svC S.t S.v S.sn s1 s2 (.slice (pA q1) gs.length (pC q1)) (.slice (pA q') (S.gl.length + 1) (pC q')) = svR { ({ S with a := s1, b := s2, es := gs } : SvS) with gl := S.gl ++ [r.2.2.2.2.2.2] } q1 q' := by
                  show svC S.t S.v S.sn s1 s2 _ _ = svC S.t S.v S.sn s1 s2 _ (.slice (pA q') ({ ({ S with a := s1, b := s2, es := gs } : SvS) with gl := S.gl ++ [r.2.2.2.2.2.2] } : SvS).gl.length (pC q'))
                  rw [l9]
                exact fun w' h => rf_yes hgs hx spN spN q1 q' (adX_5 hx2 k5) hv9 hq1 (by rw [e9, l9]; exact hq') h rfl (fun p hp => by
                  rw [e9] at hp
                  rcases List.mem_append.1 hp with h1 | h1
                  · exact List.mem_cons_of_mem _ (List.mem_cons_of_mem _ (List.mem_cons_of_mem _ (List.mem_cons_of_mem _ (List.mem_append_left _ (List.mem_append_right [] h1)))))
                  · exact List.mem_cons_of_mem _ (List.mem_cons_of_mem _ (List.mem_cons_of_mem _ (List.mem_cons_of_mem _ (List.mem_append_right _ (List.mem_append_left _ h1)))))) (fun f hf => by rw [(adGA_0 (by omega) (by omega)), List.append_nil] at hf; exact List.mem_append_right _ hf) (fun f hf => by rw [(adGA_0 (by omega) (by omega)), List.append_nil] at hf; exact n1' f hf)
          ·
            first | (have h5 := of_decide_eq_true h5) | (have h5 := of_decide_eq_false h5) | skip
            refine LQ_skip rfl rfl rfl rfl rfl rfl rfl ?_
            refine LQ_skip rfl rfl rfl rfl rfl rfl rfl ?_
            refine LQ_skip rfl rfl rfl rfl rfl rfl rfl ?_
            refine LQ_skip rfl rfl rfl rfl rfl rfl rfl ?_
            refine LQ_skip rfl rfl rfl rfl rfl rfl rfl ?_
            refine LQ_skip rfl rfl rfl rfl rfl rfl rfl ?_
            refine LQ_skip rfl rfl rfl rfl rfl rfl rfl ?_
            refine LQ_skip rfl rfl rfl rfl rfl rfl rfl ?_
            refine LQ_skip rfl rfl rfl rfl rfl rfl rfl ?_
            refine LQ_skip rfl rfl rfl rfl rfl rfl rfl ?_
            refine LQ_skip rfl rfl rfl rfl rfl rfl rfl ?_
            refine LQ_skip rfl rfl rfl rfl rfl rfl rfl ?_
            refine LQ_skip rfl rfl rfl rfl rfl rfl rfl ?_
            first | refine LQ_v rfl rfl rfl (V_pickT rfl rfl rfl) ?_ | refine LQ_v rfl rfl rfl (V_pickF rfl rfl rfl) ?_
            refine LQ_nil ?_
            change J _ _ _ _
            refine J_false rfl ?_
            refine J_skip ?_
            change J _ _ _ _
            refine J_seq ?_
            refine J_seq ?_
            refine J_region ?_
            refine L_v rfl rfl rfl (V_move rfl rfl) ?_
            refine L_v rfl rfl rfl (V_geq rfl rfl rfl (by first | exact decide_eq_true (by omega) | exact decide_eq_false (by omega) | rfl)) ?_
            refine L_nil ?_
            change J _ _ _ _
            refine J_false rfl ?_
            have hx : adE S.sv r = 0 := by rw [adE_5 hok k5, if_neg (fun hh => h5 (by have : 0 < S.gl.length := hh.1; omega)), if_neg (by show ¬ S.gl.length = 200; omega)]
            have hx2 : adE ({ S with a := s1, b := s2, es := gs } : SvS).sv r = 0 := by rw [hsv]; exact hx
            refine J_skip ?_
            change J _ _ _ _
            refine J_region ?_
            refine L_v rfl rfl rfl (V_fieldAddr rfl rfl Try.underlying30 rfl sz28rf rfl) ?_
            refine L_v rfl rfl rfl (V_load1 3 rfl rfl rfl Try.underlying28 rfl (by rfl)) ?_
            refine L_v rfl rfl rfl (V_fieldAddr rfl rfl Try.underlying45 rfl sz43rf rfl) ?_
            refine L_v rfl rfl rfl (V_loadT 1 (vs := sgV r.2.2.2.2.2.2) rfl rfl rfl Try.underlying43 rfl sz43rf (by kernel_rfl) (by kernel_rfl)) ?_
            refine L_buildSlice (vs := [(0, .agg (sgV r.2.2.2.2.2.2).toArray)]) (l := sgV r.2.2.2.2.2.2) rfl rfl rfl rfl rfl (bsG _) (fun b5 => ?_)
            refine L_cons rfl (S_appendP ([(b0, row 30 (svX S s s3)), (b1, row 45 (recX r ra rb rc rd)), (b2, row 30 (svX SS0 spN spN)), (b3, row 30 (svR ({ S with a := s1, b := s2, es := gs } : SvS) q1 q3))] ++ pM 39 q1 (gs.map enW).flatten) [(b5, row 43 (sgV r.2.2.2.2.2.2))] q3 (kgS S) (n := S.gl.length) (m := 1) (news := sgV r.2.2.2.2.2.2) rfl rfl rfl rfl Try.underlying28 elG (by show ([(b0, row 30 (svX S s s3)), (b1, row 45 (recX r ra rb rc rd)), (b2, row 30 (svX SS0 spN spN)), (b3, row 30 (svR ({ S with a := s1, b := s2, es := gs } : SvS) q1 q3))] ++ (pM 39 q1 (gs.map enW).flatten ++ pM 43 q3 (kgS S))) ++ [_] = _; simp only [List.append_assoc]) hq3 (fun w1 hw => src_C Try.underlying28 (SlC.in (r := []) (fz := (0, 0)) hw (List.mem_append_right _ (List.mem_singleton.2 rfl)) rfl 1) (all_one (by kernel_rfl))) (by omega) (by omega) (fun q' hq' => ?_))
            refine L_v rfl rfl rfl (V_fieldAddr rfl rfl Try.underlying30 rfl sz28rf rfl) ?_
            refine L_store1 3 (l' := svC S.t S.v S.sn s1 s2 (.slice (pA q1) gs.length (pC q1)) (.slice (pA q') (S.gl.length + 1) (pC q'))) rfl rfl rfl rfl rfl rfl rfl sz28rf (Nat.le_of_ble_eq_true (by kernel_rfl)) (by kernel_rfl) ?_
            refine L_nil ?_
            change J _ _ _ _
            refine J_seq ?_
            refine J_region ?_
            refine L_v rfl rfl rfl (V_loadT 3 (vs := svC S.t S.v S.sn s1 s2 (.slice (pA q1) gs.length (pC q1)) (.slice (pA q') (S.gl.length + 1) (pC q'))) rfl rfl rfl Try.underlying30 rfl sz30rf (by kernel_rfl) (by kernel_rfl)) ?_
            refine L_storeW 2 rfl rfl rfl rfl rfl rfl (szd sz30rf (by kernel_rfl)) (all_one (by kernel_rfl)) (by kernel_rfl) ?_
            refine L_v rfl rfl rfl (V_assign rfl rfl) ?_
            refine L_nil ?_
            change J _ _ _ _
            refine J_ret ?_
            change Kret _ _ _ Exit.ret _
            refine ret2 rfl rfl (RV_c 2 rfl rfl Try.underlying30 rfl (szd sz30rf (by kernel_rfl))) (RV_t rfl) ?_
            have e9 : kgS { ({ S with a := s1, b := s2, es := gs } : SvS) with gl := S.gl ++ [r.2.2.2.2.2.2] } = kgS S ++ sgV r.2.2.2.2.2.2 := by
              show ((S.gl ++ [r.2.2.2.2.2.2]).map sgV).flatten = _
              rw [List.map_append, List.flatten_append, List.map_singleton, List.flatten_singleton]
            have l9 : ({ ({ S with a := s1, b := s2, es := gs } : SvS) with gl := S.gl ++ [r.2.2.2.2.2.2] } : SvS).gl.length = S.gl.length + 1 := List.length_append
            have hv9 : svC S.t S.v S.sn s1 s2 (.slice (pA q1) gs.length (pC q1)) (.slice (pA q') (S.gl.length + 1) (pC q')) = svR { ({ S with a := s1, b := s2, es := gs } : SvS) with gl := S.gl ++ [r.2.2.2.2.2.2] } q1 q' := by
              show svC S.t S.v S.sn s1 s2 _ _ = svC S.t S.v S.sn s1 s2 _ (.slice (pA q') ({ ({ S with a := s1, b := s2, es := gs } : SvS) with gl := S.gl ++ [r.2.2.2.2.2.2] } : SvS).gl.length (pC q'))
              rw [l9]
            exact fun w' h => rf_yes hgs hx spN spN q1 q' (adX_5 hx2 k5) hv9 hq1 (by rw [e9, l9]; exact hq') h rfl (fun p hp => by
              rw [e9] at hp
              rcases List.mem_append.1 hp with h1 | h1
              · exact List.mem_cons_of_mem _ (List.mem_cons_of_mem _ (List.mem_cons_of_mem _ (List.mem_cons_of_mem _ (List.mem_append_left _ (List.mem_append_right [] h1)))))
              · exact List.mem_cons_of_mem _ (List.mem_cons_of_mem _ (List.mem_cons_of_mem _ (List.mem_cons_of_mem _ (List.mem_append_right _ (List.mem_append_left _ h1)))))) (fun f hf => by rw [(adGA_0 (by omega) (by omega)), List.append_nil] at hf; exact List.mem_append_right _ hf) (fun f hf => by rw [(adGA_0 (by omega) (by omega)), List.append_nil] at hf; exact n1' f hf)

end Go.Proofs.Ytcdenfkbhefbbaa
