/- What the laws of the vault ask: sizes; the test without input. -/
import Derived.Test.YtcdenfkbhefbbaaVaultLaw
set_option linter.unusedVariables false
set_option linter.unusedSimpArgs false
set_option maxRecDepth 100000
namespace Go.Proofs.Ytcdenfkbhefbbaa
open Go.Sx
def SzV (s : Sv) : Prop := SzC s.snap.2.2.1 ∧ (∀ e ∈ s.ents, SzC e.2.2.2.2) ∧ s.ents.length ≤ 549755813888 ∧ s.sgs.length ≤ 549755813888 ∧ ∀ e ∈ s.ents, -9223372036854775808 ≤ e.1 ∧ e.1 ≤ 9223372036854775807
/-- What is known of all lengths ahead. -/
def SzB (S : SvS) : Prop := SzC S.sn.2.2.1 ∧ (∀ p ∈ S.es, SzC p.1.2.2.2.2) ∧ S.es.length ≤ 17592186044416 ∧ S.gl.length ≤ 17592186044416 ∧ ∀ p ∈ S.es, -9223372036854775808 ≤ p.1.1 ∧ p.1.1 ≤ 9223372036854775807
theorem SzB.V {S : SvS} (h : SzB S) (h1 : S.es.length ≤ 400) (h2 : S.gl.length ≤ 400) : SzV S.sv := by
  obtain ⟨a, b, _, _, c⟩ := h
  refine ⟨a, fun e he => ?_, by rw [svEnts]; omega, by show S.gl.length ≤ _; omega, fun e he => ?_⟩
  · obtain ⟨p, hp, rfl⟩ := List.mem_map.1 he
    exact b p hp
  · obtain ⟨p, hp, rfl⟩ := List.mem_map.1 he
    exact c p hp
theorem SzV.S {S : SvS} (h : SzV S.sv) : SzS S := by
  obtain ⟨h1, h2, h3, h4, h5⟩ := h
  refine ⟨h1, fun p hp => h2 p.1 (List.mem_map.2 ⟨p, hp, rfl⟩), ?_, h4, fun p hp => h5 p.1 (List.mem_map.2 ⟨p, hp, rfl⟩)⟩
  rwa [svEnts] at h3
theorem clA_T {I : TypeId} {x : Cl} {a b : Sp} : ∀ k, (clA x a b).fp k → (clT I x a b).fp k := by
  rintro k (⟨h1, off, n, c, e⟩ | ⟨h1, off, n, c, e⟩)
  · injection e with e1 e2 e3
    exact .inl ⟨h1, off, c, by rw [e1, e3]⟩
  · injection e with e1 e2 e3
    exact .inr ⟨h1, off, c, by rw [e1, e3]⟩
theorem clA_new {I : TypeId} {x : Cl} {a b : Sp} {w w' : World} (h : NewF w w' (clT I x a b)) : NewF w w' (clA x a b) := ⟨clT_A h.fa, fun k hk => h.new k (clA_T k hk)⟩
theorem svF0 {w : World} : FA w (svF SS0 spN spN) := .and clA_0 (.and (.and (.slc (.inl ⟨rfl, rfl, _, _, rfl⟩)) (.all .nil)) (.slc (.inl ⟨rfl, rfl, _, _, rfl⟩)))
theorem svF0n {w w' : World} : NewF w w' (svF SS0 spN spN) := ⟨svF0, fun k hk => by
  rcases hk with (h | h) | (h | ⟨f, hf, _⟩) | h
  · exact absurd rfl h.1
  · exact absurd rfl h.1
  · exact absurd rfl h.1
  · cases hf
  · exact absurd rfl h.1⟩
theorem upd_svF {w w' : World} {S : SvS} {q1 q3 : OwnP} (hq1 : PC 43 q1 S.es.length (keS S)) (hq3 : PC 97 q3 S.gl.length (kgS S)) (hU : Upd [] w w' (pM 39 q1 (keS S) ++ pM 43 q3 (kgS S)) [clT 3 S.sn.2.2.1 S.a S.b, allF (S.es.map (enT 3))]) : NewF w w' (svF S (pA q1, pC q1) (pA q3, pC q3)) := by
  have hn := hU.newL
  refine (clA_new (hU.fa _ (List.mem_cons_self ..))).and (NewF.and (NewF.and (hq1.newF fun g o h => hn.at_ g o (List.mem_append_left _ h)) ?_) (hq3.newF fun g o h => hn.at_ g o (List.mem_append_right _ h)))
  have h2 := hU.fa _ (List.mem_cons_of_mem _ (List.mem_cons_self ..))
  refine ⟨.all fun f hf => ?_, fun k ⟨f, hf, hk⟩ => ?_⟩
  · obtain ⟨p, hp, rfl⟩ := List.mem_map.1 hf
    exact clT_A (h2.fa.of (List.mem_map.2 ⟨p, hp, rfl⟩))
  · obtain ⟨p, hp, rfl⟩ := List.mem_map.1 hf
    exact h2.new k ⟨_, List.mem_map.2 ⟨p, hp, rfl⟩, clA_T k hk⟩
/-- Fold, as a law sees it. -/
theorem fold_f (S : SvS) (s s3 : Sp) (r : Rec) (ra rb rc rd : Sp) (w : World) (f1 : FA w (svF S s s3)) (f2 : FA w (rcA (r, ra, rb, rc, rd))) (hz : SzV S.sv) (hB : SzC r.2.2.2.1.2.2.2.2 ∧ SzC r.2.2.2.2.2.1.2.2.1) :
    Calls Try.prog 9 #[.agg (svX S s s3).toArray, .agg (recX r ra rb rc rd).toArray] w fun e w' => ∃ (S' : SvS) (s' s3' : Sp), e = .returned (.tuple #[.agg (svX S' s' s3').toArray, .int .i64 (foldQ S.sv r)]) ∧ Fr [] w w' ∧ NewF w w' (svF S' s' s3') ∧ S'.sv = foldV S.sv r := by
  refine (fold_w S s s3 r ra rb rc rd w f1 f2 hz.S hB).mono ?_
  rintro e w' (⟨hk, rfl, hfr⟩ | ⟨hk, S', q1, q3, rfl, hS, hq1, hq3, hU⟩)
  · rw [foldK_Q] at hk ⊢
    exact ⟨SS0, spN, spN, rfl, hfr, svF0n, by unfold foldV; rw [if_neg hk]; rfl⟩
  · rw [foldK_Q] at hk
    exact ⟨S', _, _, by rw [hk], hU.fr, upd_svF hq1 hq3 hU, by unfold foldV; rw [if_pos hk, hS]⟩
/-! ### Sizes -/
abbrev mn5 (n : Nat) : Int := 5 * (if (100000 : Int) < (n : Int) then 100000 else (n : Int))
abbrev mnN (x : Int) : Int := if (100001 : Int) < x then 100001 else x
def szL (r : Rec) : List Int := [(r.2.2.2.1.2.2.2.1.2.2.2.1.size : Int), (r.2.2.2.1.2.2.2.1.2.2.2.2.1.size : Int), (r.2.2.2.2.2.1.2.2.2.size : Int), mn5 r.2.2.2.1.2.2.2.2.1.length, mn5 r.2.2.2.1.2.2.2.2.2.length, mn5 r.2.2.2.2.2.1.2.2.1.1.length, mn5 r.2.2.2.2.2.1.2.2.1.2.length]
theorem mn5_nn (n : Nat) : 0 ≤ mn5 n := by unfold mn5; split <;> omega
theorem szL_nn (r : Rec) (i : Nat) : 0 ≤ (szL r).getD i 0 := by
  have h : ∀ x ∈ szL r, 0 ≤ x := by
    intro x hx
    simp only [szL, List.mem_cons, List.not_mem_nil, or_false] at hx
    rcases hx with rfl | rfl | rfl | rfl | rfl | rfl | rfl <;> first | exact mn5_nn _ | omega
  by_cases hi : i < (szL r).length
  · rw [List.getD_eq_getElem?_getD, List.getElem?_eq_getElem hi]
    exact h _ (List.getElem_mem hi)
  · rw [List.getD_eq_getElem?_getD, List.getElem?_eq_none (by omega)]
    exact Int.le_refl 0
theorem szL_at (r : Rec) {i : Nat} (h : i < 7) : (ints (szL r))[((i : Nat) : Int).toNat]? = some (.int .i64 ((szL r).getD i 0)) := by
  have h7 : i < (szL r).length := h
  rw [Int.toNat_natCast]
  show ((szL r).map (Value.int .i64))[i]? = _
  rw [List.getElem?_map, List.getElem?_eq_getElem h7, List.getD_eq_getElem?_getD, List.getElem?_eq_getElem h7]
  rfl
/-! ### The test without input -/
abbrev enN (n : Int) : En := (n, 2, 1, cmd0, ([], []))
def sgN : Sg := ((1, dz, dz), dz)
def sv1 : Sv := ⟨2, 1, sn0, [], []⟩
def sv2 : Sv := ⟨2, 1, sn0, [enN 1], []⟩
def sv3 : Sv := ⟨2, 1, sn0, [enN 1, enN 2], []⟩
def sv6 : Sv := ⟨2, 1, sn0, [enN 1], [sgN]⟩
theorem right0 : RightS sv0 := ⟨⟨by decide, by decide, by decide, by decide, by decide, .inr rfl⟩, fun i hi => absurd hi (Nat.not_lt_zero _), fun i _ hi => absurd hi (Nat.not_lt_zero _), by rw [okR_all]; kernel_rfl, fun h => absurd rfl h, fun e he => (nomatch he), fun x hx => (nomatch hx)⟩
theorem q_of {s s' : Sv} {r : Rec} (h : RightS s) (h0 : adE s r = 0) (hs : foldS s r = s') : foldQ s r = 0 ∧ foldV s r = s' ∧ RightS s' := by
  have h1 : foldQ s r = 0 := (foldQ_yes h).trans h0
  refine ⟨h1, ?_, hs ▸ right_fold h h0⟩
  unfold foldV
  rw [if_pos h1, hs]
theorem q1 : foldQ SS0.sv (tR 2 1) = 0 ∧ foldV SS0.sv (tR 2 1) = sv1 ∧ RightS sv1 := q_of right0 (by rw [adE_1 ⟨by rw [okR_all]; kernel_rfl, .inl ⟨2, 1, rfl⟩⟩ rfl]; decide) rfl
theorem q2 : foldQ sv1 (eR (enN 1)) = 0 ∧ foldV sv1 (eR (enN 1)) = sv2 ∧ RightS sv2 := q_of q1.2.2 (by rw [adE_2 ⟨by rw [okR_all]; kernel_rfl, .inr (.inl ⟨_, rfl⟩)⟩ rfl]; decide) rfl
theorem q3 : foldQ sv2 (eR (enN 2)) = 0 ∧ foldV sv2 (eR (enN 2)) = sv3 ∧ RightS sv3 := q_of q2.2.2 (by rw [adE_2 ⟨by rw [okR_all]; kernel_rfl, .inr (.inl ⟨_, rfl⟩)⟩ rfl]; decide) rfl
theorem q4 : foldQ sv3 (cR 2) = 0 ∧ foldV sv3 (cR 2) = sv2 ∧ RightS sv2 := q_of q3.2.2 (by rw [adE_3 ⟨by rw [okR_all]; kernel_rfl, .inr (.inr (.inl ⟨_, rfl⟩))⟩ rfl]; decide) rfl
theorem q5 : foldQ sv2 (eR (enN 3)) = 110 := (foldQ_yes q2.2.2).trans (by rw [adE_2 ⟨by rw [okR_all]; kernel_rfl, .inr (.inl ⟨_, rfl⟩)⟩ rfl]; decide)
theorem q6 : foldQ sv2 (gR sgN) = 0 ∧ foldV sv2 (gR sgN) = sv6 ∧ RightS sv6 := q_of q2.2.2 (by rw [adE_5 ⟨by rw [okR_all]; kernel_rfl, .inr (.inr (.inr (.inr ⟨_, rfl⟩)))⟩ rfl]; decide) rfl
theorem q7 : foldQ sv6 (gR sgN) = 110 := (foldQ_yes q6.2.2).trans (by rw [adE_5 ⟨by rw [okR_all]; kernel_rfl, .inr (.inr (.inr (.inr ⟨_, rfl⟩)))⟩ rfl]; decide)
theorem sz_of {s : Sv} (h1 : s.snap = sn0) (h2 : s.ents.all (fun e => decide (e.2.2.2.2.1.length ≤ 17592186044416 ∧ e.2.2.2.2.2.length ≤ 17592186044416 ∧ -9223372036854775808 ≤ e.1 ∧ e.1 ≤ 9223372036854775807)) = true) (h3 : s.ents.length ≤ 549755813888) (h4 : s.sgs.length ≤ 549755813888) : SzV s := by
  rw [List.all_eq_true] at h2
  exact ⟨by rw [h1]; exact ⟨by decide, by decide⟩, fun e he => ⟨(of_decide_eq_true (h2 e he)).1, (of_decide_eq_true (h2 e he)).2.1⟩, h3, h4, fun e he => (of_decide_eq_true (h2 e he)).2.2⟩
theorem ent_len {S : SvS} {s : Sv} (h : S.sv = s) : S.es.length = s.ents.length := by rw [← h, svEnts]
theorem sz3la : (Try.prog.info? 3).map (·.size) = some 1 := by kernel_rfl
theorem sz9la : (Try.prog.info? 9).map (·.size) = some 1 := by kernel_rfl
theorem sz22la : (Try.prog.info? 22).map (·.size) = some 1 := by kernel_rfl
theorem sz24la : (Try.prog.info? 24).map (·.size) = some 2 := by kernel_rfl
theorem sz26la : (Try.prog.info? 26).map (·.size) = some 5 := by kernel_rfl
theorem sz27la : (Try.prog.info? 27).map (·.size) = some 1 := by kernel_rfl
theorem sz28la : (Try.prog.info? 28).map (·.size) = some 1 := by kernel_rfl
theorem sz30la : (Try.prog.info? 30).map (·.size) = some 9 := by kernel_rfl
theorem sz37la : (Try.prog.info? 37).map (·.size) = some 38 := by kernel_rfl
theorem sz39la : (Try.prog.info? 39).map (·.size) = some 43 := by kernel_rfl
theorem sz45la : (Try.prog.info? 45).map (·.size) = some 149 := by kernel_rfl
theorem sz77la : (Try.prog.info? 77).map (·.size) = some 7 := by kernel_rfl
theorem tx9la : Txt Try.prog 9 := txt_of Try.func9 rfl (by kernel_rfl)
theorem tx14la : Txt Try.prog 14 := txt_of Try.func14 rfl (by kernel_rfl)
theorem tx15la : Txt Try.prog 15 := txt_of Try.func15 rfl (by kernel_rfl)
theorem tx33la : Txt Try.prog 33 := txt_of Try.func33 rfl (by kernel_rfl)
theorem tx34la : Txt Try.prog 34 := txt_of Try.func34 rfl (by kernel_rfl)
theorem z30la : (Try.prog.info? 30).bind (·.zero) = some (.agg [.int .i64 0, .int .i64 0, .int .i64 0, .int .i64 0, .slice none 0 0, .slice none 0 0, .string ByteArray.empty, .slice none 0 0, .slice none 0 0].toArray) := by kernel_rfl
theorem z45la : (Try.prog.info? 45).bind (·.zero) = some (.agg [.int .i64 0, .int .i64 0, .int .i64 0, .int .i64 0, .int .i64 0, .int .i64 0, .int .i64 0, .int .i64 0, .int .i64 0, .string ByteArray.empty, .string ByteArray.empty, .int .i64 0, .int .u8 0, .int .u8 0, .int .u8 0, .int .u8 0, .int .u8 0, .int .u8 0, .int .u8 0, .int .u8 0, .int .u8 0, .int .u8 0, .int .u8 0, .int .u8 0, .int .u8 0, .int .u8 0, .int .u8 0, .int .u8 0, .int .u8 0, .int .u8 0, .int .u8 0, .int .u8 0, .int .u8 0, .int .u8 0, .int .u8 0, .int .u8 0, .int .u8 0, .int .u8 0, .int .u8 0, .int .u8 0, .int .u8 0, .int .u8 0, .int .u8 0, .int .u8 0, .slice none 0 0, .slice none 0 0, .int .i64 0, .int .i64 0, .int .i64 0, .slice none 0 0, .slice none 0 0, .string ByteArray.empty, .int .i64 0, .int .u8 0, .int .u8 0, .int .u8 0, .int .u8 0, .int .u8 0, .int .u8 0, .int .u8 0, .int .u8 0, .int .u8 0, .int .u8 0, .int .u8 0, .int .u8 0, .int .u8 0, .int .u8 0, .int .u8 0, .int .u8 0, .int .u8 0, .int .u8 0, .int .u8 0, .int .u8 0, .int .u8 0, .int .u8 0, .int .u8 0, .int .u8 0, .int .u8 0, .int .u8 0, .int .u8 0, .int .u8 0, .int .u8 0, .int .u8 0, .int .u8 0, .int .u8 0, .int .u8 0, .int .u8 0, .int .u8 0, .int .u8 0, .int .u8 0, .int .u8 0, .int .u8 0, .int .u8 0, .int .u8 0, .int .u8 0, .int .u8 0, .int .u8 0, .int .u8 0, .int .u8 0, .int .u8 0, .int .u8 0, .int .u8 0, .int .u8 0, .int .u8 0, .int .u8 0, .int .u8 0, .int .u8 0, .int .u8 0, .int .u8 0, .int .u8 0, .int .u8 0, .int .u8 0, .int .u8 0, .int .u8 0, .int .u8 0, .int .u8 0, .int .u8 0, .int .u8 0, .int .u8 0, .int .u8 0, .int .u8 0, .int .u8 0, .int .u8 0, .int .u8 0, .int .u8 0, .int .u8 0, .int .u8 0, .int .u8 0, .int .u8 0, .int .u8 0, .int .u8 0, .int .u8 0, .int .u8 0, .int .u8 0, .int .u8 0, .int .u8 0, .int .u8 0, .int .u8 0, .int .u8 0, .int .u8 0, .int .u8 0, .int .u8 0, .int .u8 0, .int .u8 0, .int .u8 0, .int .u8 0, .int .u8 0, .int .u8 0, .int .u8 0].toArray) := by kernel_rfl
theorem z77la : (Try.prog.info? 77).bind (·.zero) = some (.agg [.int .i64 0, .int .i64 0, .int .i64 0, .int .i64 0, .int .i64 0, .int .i64 0, .int .i64 0].toArray) := by kernel_rfl

theorem size_w (r : Rec) (ra rb rc rd : Sp) (w : World) (hR : SzR r) :
    Calls Try.prog 15 #[.agg (recX r ra rb rc rd).toArray] w fun e w' => ∃ m : Int, 0 ≤ m ∧ m ≤ 100001 ∧ e = .returned (.int .i64 m) ∧ Fr [] w w' := by
  obtain ⟨⟨hR1, hR2⟩, hR3, hR4⟩ := hR
  refine calls_of (args := [.agg (recX r ra rb rc rd).toArray]) ([]) ([]) ([]) Try.func15 rfl rfl (okW0 _ _ _ _) ?_
  refine J_seq ?_
  refine J_region ?_
  refine L_box rfl rfl rfl rfl rfl (fun b0 => ?_)
  refine L_v rfl rfl rfl (V_assign rfl rfl) ?_
  refine L_nil ?_
  change J _ _ _ _
  refine J_seq ?_
  refine J_region ?_
  refine L_v rfl rfl rfl (V_assign rfl rfl) ?_
  refine L_nil ?_
  change J _ _ _ _
  refine J_seq ?_
  refine J_region ?_
  refine L_v rfl rfl rfl (V_fieldAddr rfl rfl Try.underlying45 rfl sz39la rfl) ?_
  refine L_v rfl rfl rfl (V_fieldAddr rfl rfl Try.underlying39 rfl sz37la rfl) ?_
  refine L_v rfl rfl rfl (V_fieldAddr rfl rfl Try.underlying37 rfl sz9la rfl) ?_
  refine L_v rfl rfl rfl (V_load1 0 rfl rfl rfl Try.underlying9 rfl (by rfl)) ?_
  refine L_v rfl rfl rfl (V_lenS rfl rfl Try.underlying9 rfl) ?_
  refine L_v rfl rfl rfl (V_fieldAddr rfl rfl Try.underlying45 rfl sz39la rfl) ?_
  refine L_v rfl rfl rfl (V_fieldAddr rfl rfl Try.underlying39 rfl sz37la rfl) ?_
  refine L_v rfl rfl rfl (V_fieldAddr rfl rfl Try.underlying37 rfl sz9la rfl) ?_
  refine L_v rfl rfl rfl (V_load1 0 rfl rfl rfl Try.underlying9 rfl (by rfl)) ?_
  refine L_v rfl rfl rfl (V_lenS rfl rfl Try.underlying9 rfl) ?_
  refine L_v rfl rfl rfl (V_fieldAddr rfl rfl Try.underlying45 rfl sz26la rfl) ?_
  refine L_v rfl rfl rfl (V_fieldAddr rfl rfl Try.underlying26 rfl sz9la rfl) ?_
  refine L_v rfl rfl rfl (V_load1 0 rfl rfl rfl Try.underlying9 rfl (by rfl)) ?_
  refine L_v rfl rfl rfl (V_lenS rfl rfl Try.underlying9 rfl) ?_
  refine L_v rfl rfl rfl (V_fieldAddr rfl rfl Try.underlying45 rfl sz39la rfl) ?_
  refine L_v rfl rfl rfl (V_fieldAddr rfl rfl Try.underlying39 rfl sz24la rfl) ?_
  refine L_v rfl rfl rfl (V_fieldAddr rfl rfl Try.underlying24 rfl sz22la rfl) ?_
  refine L_v rfl rfl rfl (V_load1 0 rfl rfl rfl Try.underlying22 rfl (by rfl)) ?_
  refine L_v rfl rfl rfl (V_len rfl rfl Try.underlying22 rfl) ?_
  refine L_v rfl rfl rfl (V_min rfl rfl rfl rfl) ?_
  refine L_v rfl rfl rfl (V_mul rfl rfl rfl (by first | exact Go.IntWalk.i64_in _ (by omega) | rfl)) ?_
  refine L_v rfl rfl rfl (V_fieldAddr rfl rfl Try.underlying45 rfl sz39la rfl) ?_
  refine L_v rfl rfl rfl (V_fieldAddr rfl rfl Try.underlying39 rfl sz24la rfl) ?_
  refine L_v rfl rfl rfl (V_fieldAddr rfl rfl Try.underlying24 rfl sz22la rfl) ?_
  refine L_v rfl rfl rfl (V_load1 0 rfl rfl rfl Try.underlying22 rfl (by rfl)) ?_
  refine L_v rfl rfl rfl (V_len rfl rfl Try.underlying22 rfl) ?_
  refine L_v rfl rfl rfl (V_min rfl rfl rfl rfl) ?_
  refine L_v rfl rfl rfl (V_mul rfl rfl rfl (by first | exact Go.IntWalk.i64_in _ (by omega) | rfl)) ?_
  refine L_v rfl rfl rfl (V_fieldAddr rfl rfl Try.underlying45 rfl sz26la rfl) ?_
  refine L_v rfl rfl rfl (V_fieldAddr rfl rfl Try.underlying26 rfl sz24la rfl) ?_
  refine L_v rfl rfl rfl (V_fieldAddr rfl rfl Try.underlying24 rfl sz22la rfl) ?_
  refine L_v rfl rfl rfl (V_load1 0 rfl rfl rfl Try.underlying22 rfl (by rfl)) ?_
  refine L_v rfl rfl rfl (V_len rfl rfl Try.underlying22 rfl) ?_
  refine L_v rfl rfl rfl (V_min rfl rfl rfl rfl) ?_
  refine L_v rfl rfl rfl (V_mul rfl rfl rfl (by first | exact Go.IntWalk.i64_in _ (by omega) | rfl)) ?_
  refine L_v rfl rfl rfl (V_fieldAddr rfl rfl Try.underlying45 rfl sz26la rfl) ?_
  refine L_v rfl rfl rfl (V_fieldAddr rfl rfl Try.underlying26 rfl sz24la rfl) ?_
  refine L_v rfl rfl rfl (V_fieldAddr rfl rfl Try.underlying24 rfl sz22la rfl) ?_
  refine L_v rfl rfl rfl (V_load1 0 rfl rfl rfl Try.underlying22 rfl (by rfl)) ?_
  refine L_v rfl rfl rfl (V_len rfl rfl Try.underlying22 rfl) ?_
  refine L_v rfl rfl rfl (V_min rfl rfl rfl rfl) ?_
  refine L_v rfl rfl rfl (V_mul rfl rfl rfl (by first | exact Go.IntWalk.i64_in _ (by omega) | rfl)) ?_
  refine L_v rfl rfl rfl (V_buildE (v := .agg (ints (szL r)).toArray) rfl rfl (fun w => by kernel_rfl)) ?_
  refine L_alloc rfl rfl rfl rfl z77la (fun b1 => ?_)
  refine L_storeW 1 rfl rfl rfl rfl rfl rfl (szd sz77la (by kernel_rfl)) (all_one (by kernel_rfl)) (by kernel_rfl) ?_
  refine L_nil ?_
  change J _ _ _ _
  refine J_seq ?_
  refine J_seq ?_
  refine J_region ?_
  refine L_v rfl rfl rfl (V_assign rfl rfl) ?_
  refine L_nil ?_
  change J _ _ _ _
  refine J_block ?_
  refine J_loop (X := Nat × Int) (fun x => { env := [(3, .int .i64 x.2), (4, .pointer (some ⟨b1, 0, none⟩)), (5, .int .i64 (x.1 : Int))], mem := [(b0, row 45 (recX r ra rb rc rd)), (b1, row 77 (ints (szL r)))] }) (fun x => x.1 ≤ 7 ∧ 0 ≤ x.2 ∧ x.2 ≤ 100001) (fun x => 7 - x.1) (0, 300) ⟨by decide, by decide, by decide⟩ ⟨⟨rfl, rfl, rfl, trivial⟩, List.Sublist.refl _, fun f hf => hf, rfl⟩ ?_
  rintro ⟨i, n⟩ ⟨hi, hn0, hn1⟩
  simp only at hi hn0 hn1 ⊢
  have hx := szL_nn r i
  refine J_seq ?_
  refine J_seq ?_
  refine J_region ?_
  refine L_v rfl rfl rfl (V_move rfl rfl) ?_
  refine L_v rfl rfl rfl (V_lss rfl rfl rfl (by first | exact decide_eq_true (by omega) | exact decide_eq_false (by omega) | rfl)) ?_
  refine L_nil ?_
  change J _ _ _ _
  refine J_cond rfl (fun h1 => ?_) (fun h1 => ?_)
  ·
    first | (have h1 := of_decide_eq_true h1) | (have h1 := of_decide_eq_false h1) | skip
    refine J_skip ?_
    change J _ _ _ _
    refine J_seq ?_
    refine J_block ?_
    refine J_region ?_
    refine L_v rfl rfl rfl (V_move rfl rfl) ?_
    refine L_v rfl rfl rfl (V_move rfl rfl) ?_
    refine L_v rfl rfl rfl (V_indexArr rfl rfl rfl Try.underlying77 sz3la (by omega) (by omega) (by first | exact ix0 _ | exact ix1 _ _ | rfl)) ?_
    refine L_v rfl rfl rfl (V_load1 1 (v := .int .i64 ((szL r).getD i 0)) rfl rfl rfl Try.underlying3 rfl (szL_at r (by omega))) ?_
    refine L_v rfl rfl rfl (V_min rfl rfl rfl rfl) ?_
    refine L_v rfl rfl rfl (V_add rfl rfl rfl (by first | exact Go.IntWalk.i64_in _ (by omega) | rfl)) ?_
    refine L_v rfl rfl rfl (V_min rfl rfl rfl rfl) ?_
    refine L_v rfl rfl rfl (V_assign rfl rfl) ?_
    refine L_nil ?_
    change J _ _ _ _
    refine J_region ?_
    refine L_v rfl rfl rfl (V_move rfl rfl) ?_
    refine L_v rfl rfl rfl (V_add rfl rfl rfl (by first | exact Go.IntWalk.i64_in _ (by omega) | rfl)) ?_
    refine L_v rfl rfl rfl (V_assign rfl rfl) ?_
    refine L_nil ?_
    exact ⟨(i + 1, mnN (n + mnN ((szL r).getD i 0))), ⟨by show i + 1 ≤ 7; omega, by show 0 ≤ mnN _; unfold mnN; omega, by show mnN _ ≤ 100001; unfold mnN; omega⟩, by show 7 - (i + 1) < 7 - i; omega, ⟨rfl, rfl, rfl, trivial⟩, List.Sublist.refl _, fun f hf => hf, rfl⟩
  ·
    first | (have h1 := of_decide_eq_true h1) | (have h1 := of_decide_eq_false h1) | skip
    refine J_exit ?_
    change J _ _ _ _
    refine J_seq ?_
    refine J_region ?_
    refine L_v rfl rfl rfl (V_move rfl rfl) ?_
    refine L_v rfl rfl rfl (V_assign rfl rfl) ?_
    refine L_nil ?_
    change J _ _ _ _
    refine J_ret ?_
    change Kret _ _ _ Exit.ret _
    refine ret1 rfl rfl (RV_t rfl) ?_
    exact fun w' h => ⟨n, hn0, hn1, rfl, h.fr⟩

theorem large_w (S : SvS) (s s3 : Sp) (r : Rec) (ra rb rc rd : Sp) (w : World) (f1 : FA w (svF S s s3)) (hz : SzB S) (hR : SzR r) :
    Calls Try.prog 6 #[.agg (svX S s s3).toArray, .agg (recX r ra rb rc rd).toArray] w fun e w' => ∃ b : Bool, e = .returned (.bool b) ∧ Fr [] w w' ∧ (b = false → S.es.length ≤ 400 ∧ S.gl.length ≤ 400) := by
  have hSn : S.sn.2.2.1.1.length ≤ 17592186044416 ∧ S.sn.2.2.1.2.length ≤ 17592186044416 := ⟨Nat.le_trans hz.1.1 (by decide), Nat.le_trans hz.1.2 (by decide)⟩
  have hEs : ∀ p ∈ S.es, p.1.2.2.2.2.1.length ≤ 17592186044416 ∧ p.1.2.2.2.2.2.length ≤ 17592186044416 := fun p hp => ⟨Nat.le_trans (hz.2.1 p hp).1 (by decide), Nat.le_trans (hz.2.1 p hp).2 (by decide)⟩
  obtain ⟨_, _, hE, hG, _⟩ := hz
  refine calls_of (args := [.agg (svX S s s3).toArray, .agg (recX r ra rb rc rd).toArray]) ([]) ([]) ([svF S s s3]) Try.func6 rfl rfl (okFW (.cons f1 .nil)) ?_
  refine J_seq ?_
  refine J_region ?_
  refine L_box rfl rfl rfl rfl rfl (fun b0 => ?_)
  refine L_box rfl rfl rfl rfl rfl (fun b1 => ?_)
  refine L_v rfl rfl rfl (V_assign rfl rfl) ?_
  refine L_nil ?_
  change J _ _ _ _
  refine J_seq ?_
  refine J_seq ?_
  refine J_region ?_
  refine L_v rfl rfl rfl (V_fieldAddr rfl rfl Try.underlying30 rfl sz27la rfl) ?_
  refine L_v rfl rfl rfl (V_load1 0 rfl rfl rfl Try.underlying27 rfl (by rfl)) ?_
  refine L_v rfl rfl rfl (V_len rfl rfl Try.underlying27 rfl) ?_
  refine L_v rfl rfl rfl (V_gtr rfl rfl rfl (by first | exact decide_eq_true (by omega) | exact decide_eq_false (by omega) | rfl)) ?_
  refine L_v rfl rfl rfl (V_move rfl rfl) ?_
  apply L_or 4 11 16
  · rfl
  · rfl
  · rfl
  · rfl
  · rfl
  · rfl
  · rfl
  · kernel_rfl
  · intro hb1 _ _ hk1
    refine L_wv rfl rfl rfl rfl rfl rfl (V_fieldAddr rfl rfl Try.underlying30 rfl sz28la rfl) ?_
    refine L_wv rfl rfl rfl rfl rfl rfl (V_load1 0 rfl rfl rfl Try.underlying28 rfl (by rfl)) ?_
    refine L_wv rfl rfl rfl rfl rfl rfl (V_len rfl rfl Try.underlying28 rfl) ?_
    refine L_wv rfl rfl rfl rfl rfl rfl (V_gtr rfl rfl rfl (by first | exact decide_eq_true (by omega) | exact decide_eq_false (by omega) | rfl)) ?_
    exact hk1 _ ⟨rfl, rfl, rfl, rfl, ext_cut 4 (by kernel_rfl) (by kernel_rfl)⟩
  refine L_nil ?_
  change J _ _ _ _
  refine J_cond rfl (fun h2 => ?_) (fun h2 => ?_)
  ·
    first | (have h2 := of_decide_eq_true h2) | (have h2 := of_decide_eq_false h2) | skip
    refine J_seq ?_
    refine J_region ?_
    refine L_v rfl rfl rfl (V_assign rfl rfl) ?_
    refine L_nil ?_
    change J _ _ _ _
    refine J_ret ?_
    change Kret _ _ _ Exit.ret _
    refine ret1 rfl rfl (RV_t rfl) ?_
    exact fun w' h => ⟨true, rfl, h.fr, fun h => by cases h⟩
  ·
    first | (have h2 := of_decide_eq_true h2) | (have h2 := of_decide_eq_false h2) | skip
    rw [Bool.or_eq_false_iff, decide_eq_false_iff_not, decide_eq_false_iff_not] at h2
    obtain ⟨hl1, hl2⟩ := h2
    refine J_skip ?_
    change J _ _ _ _
    refine J_seq ?_
    refine J_regionO (.pure 0 (.pure 2 (.pure 3 (.pure 4 (.one 1 (.one 5 (.pure 6 (.pure 7 (.nil))))))))) _ _ (Pk.refl _) (fun f hf => hf) rfl rfl (by kernel_rfl) ?_
    refine LO_v rfl rfl rfl rfl (V_loadT 1 (vs := recX r ra rb rc rd) rfl rfl rfl Try.underlying45 rfl sz45la (by kernel_rfl) (by kernel_rfl)) ?_
    refine LO_v rfl rfl rfl rfl (V_fieldAddr rfl rfl Try.underlying30 rfl sz26la rfl) ?_
    refine LO_v rfl rfl rfl rfl (V_loadT 0 (vs := snX S.sn S.a S.b) rfl rfl rfl Try.underlying26 rfl sz26la (by kernel_rfl) (by kernel_rfl)) ?_
    refine LO_v rfl rfl rfl rfl (V_buildE (v := .agg (recX (0, 0, 0, en0, 0, S.sn, sg0) spN spN S.a S.b).toArray) rfl rfl (fun w => by kernel_rfl)) ?_
    refine LO_s rfl rfl rfl (S_call rfl rfl rfl tx15la (fun w1 hw => (size_w r ra rb rc rd w1 hR).mono ?_))
    rintro e w' ⟨m18, h180, h181, rfl, hfr⟩
    refine ⟨_, _, _, rfl, hw.fr0 hfr, rfl, (Pk.refl _), (fun f hf => hf), ?_⟩
    refine LO_s rfl rfl rfl (S_call rfl rfl rfl tx15la (fun w1 hw => (size_w (0, 0, 0, en0, 0, S.sn, sg0) spN spN S.a S.b w1 ⟨⟨Nat.zero_le _, Nat.zero_le _⟩, hSn⟩).mono ?_))
    rintro e w' ⟨m22, h220, h221, rfl, hfr⟩
    refine ⟨_, _, _, rfl, hw.fr0 hfr, rfl, (Pk.refl _), (fun f hf => hf), ?_⟩
    refine LO_v rfl rfl rfl rfl (V_add rfl rfl rfl (by first | exact Go.IntWalk.i64_in _ (by omega) | rfl)) ?_
    refine LO_v rfl rfl rfl rfl (V_assign rfl rfl) ?_
    refine LO_nil ?_
    change J _ _ _ _
    refine J_seq ?_
    refine J_seq ?_
    refine J_region ?_
    refine L_v rfl rfl rfl (V_assign rfl rfl) ?_
    refine L_nil ?_
    change J _ _ _ _
    refine J_block ?_
    refine J_loop (X := Nat × Int) (fun x => { env := [(2, .pointer (some ⟨b0, 0, none⟩)), (5, .int .i64 x.2), (6, .int .i64 (x.1 : Int))], mem := [(b0, row 30 (svX S s s3)), (b1, row 45 (recX r ra rb rc rd))], facts := [svF S s s3] }) (fun x => x.1 ≤ S.es.length ∧ 0 ≤ x.2 ∧ x.2 ≤ 300003) (fun x => S.es.length - x.1) (0, m18 + m22) ⟨Nat.zero_le _, by show 0 ≤ m18 + m22; omega, by show m18 + m22 ≤ 300003; omega⟩ ⟨⟨rfl, rfl, rfl, trivial⟩, List.Sublist.refl _, fun f hf => hf, rfl⟩ ?_
    rintro ⟨i, n⟩ ⟨hi, hn0, hn1⟩
    simp only at hi hn0 hn1 ⊢
    refine J_seq ?_
    refine J_seq ?_
    refine J_region ?_
    refine L_v rfl rfl rfl (V_move rfl rfl) ?_
    refine L_v rfl rfl rfl (V_fieldAddr rfl rfl Try.underlying30 rfl sz27la rfl) ?_
    refine L_v rfl rfl rfl (V_load1 0 rfl rfl rfl Try.underlying27 rfl (by rfl)) ?_
    refine L_v rfl rfl rfl (V_len rfl rfl Try.underlying27 rfl) ?_
    refine L_v rfl rfl rfl (V_lss rfl rfl rfl (by first | exact decide_eq_true (by omega) | exact decide_eq_false (by omega) | rfl)) ?_
    refine L_v rfl rfl rfl (V_move rfl rfl) ?_
    apply L_and 2 29 32
    · rfl
    · rfl
    · rfl
    · rfl
    · rfl
    · rfl
    · rfl
    · kernel_rfl
    · intro hb3 _ _ hk3
      refine L_wv rfl rfl rfl rfl rfl rfl (V_move rfl rfl) ?_
      refine L_wv rfl rfl rfl rfl rfl rfl (V_leq rfl rfl rfl (by first | exact decide_eq_true (by omega) | exact decide_eq_false (by omega) | rfl)) ?_
      exact hk3 _ ⟨rfl, rfl, rfl, rfl, ext_cut 2 (by kernel_rfl) (by kernel_rfl)⟩
    refine L_nil ?_
    change J _ _ _ _
    refine J_cond rfl (fun h4 => ?_) (fun h4 => ?_)
    ·
      first | (have h4 := of_decide_eq_true h4) | (have h4 := of_decide_eq_false h4) | skip
      rw [Bool.and_eq_true, decide_eq_true_eq, decide_eq_true_eq] at h4
      obtain ⟨hi2, hn2⟩ := h4
      refine J_skip ?_
      change J _ _ _ _
      refine J_seq ?_
      refine J_block ?_
      refine J_region ?_
      refine L_v rfl rfl rfl (V_move rfl rfl) ?_
      refine L_v rfl rfl rfl (V_fieldAddr rfl rfl Try.underlying30 rfl sz27la rfl) ?_
      refine L_v rfl rfl rfl (V_load1 0 rfl rfl rfl Try.underlying27 rfl (by rfl)) ?_
      refine L_v rfl rfl rfl (V_move rfl rfl) ?_
      refine L_v rfl rfl rfl (V_indexC rfl rfl rfl Try.underlying27 sz39la (fun w hw => (hw.fa 0 rfl).r.l.l.1) (by omega) (by omega)) ?_
      refine L_v rfl rfl rfl (V_loadCN (vs := enX ((S.es.getD i env0).1) ((S.es.getD i env0).2.1) ((S.es.getD i env0).2.2)) rfl rfl Try.underlying39 rfl (szd sz39la (by kernel_rfl)) (fun w hw => (hw.fa 0 rfl).r.l.l.1) (by exact Nat.zero_lt_succ _) (rows_v (f := enW) env0 (sz := 42) (fun _ => rfl) (by omega))) ?_
      refine L_v rfl rfl rfl (V_buildE (v := .agg (recX (0, 0, 0, (S.es.getD i env0).1, 0, sn0, sg0) (S.es.getD i env0).2.1 (S.es.getD i env0).2.2 spN spN).toArray) rfl rfl (fun w => by kernel_rfl)) ?_
      refine L_call rfl rfl rfl rfl tx15la (fun w1 hw => (size_w (0, 0, 0, (S.es.getD i env0).1, 0, sn0, sg0) (S.es.getD i env0).2.1 (S.es.getD i env0).2.2 spN spN w1 ⟨hEs _ (getD_mem (by omega)), Nat.zero_le _, Nat.zero_le _⟩).mono ?_)
      rintro e w' ⟨m42, h420, h421, rfl, hfr⟩
      refine ⟨_, _, _, rfl, hw.fr0 hfr, rfl, ?_⟩
      refine L_v rfl rfl rfl (V_add rfl rfl rfl (by first | exact Go.IntWalk.i64_in _ (by omega) | rfl)) ?_
      refine L_v rfl rfl rfl (V_assign rfl rfl) ?_
      refine L_nil ?_
      change J _ _ _ _
      refine J_region ?_
      refine L_v rfl rfl rfl (V_move rfl rfl) ?_
      refine L_v rfl rfl rfl (V_add rfl rfl rfl (by first | exact Go.IntWalk.i64_in _ (by omega) | rfl)) ?_
      refine L_v rfl rfl rfl (V_assign rfl rfl) ?_
      refine L_nil ?_
      exact ⟨(i + 1, n + m42), ⟨by show i + 1 ≤ S.es.length; omega, by show 0 ≤ n + m42; omega, by show n + m42 ≤ 300003; omega⟩, by show S.es.length - (i + 1) < S.es.length - i; omega, ⟨rfl, rfl, rfl, trivial⟩, List.Sublist.refl _, fun f hf => hf, rfl⟩
    ·
      first | (have h4 := of_decide_eq_true h4) | (have h4 := of_decide_eq_false h4) | skip
      refine J_exit ?_
      change J _ _ _ _
      refine J_seq ?_
      refine J_region ?_
      refine L_v rfl rfl rfl (V_move rfl rfl) ?_
      refine L_v rfl rfl rfl (V_gtr rfl rfl rfl (by first | exact decide_eq_true (by omega) | exact decide_eq_false (by omega) | rfl)) ?_
      refine L_v rfl rfl rfl (V_assign rfl rfl) ?_
      refine L_nil ?_
      change J _ _ _ _
      refine J_ret ?_
      change Kret _ _ _ Exit.ret _
      refine ret1 rfl rfl (RV_t rfl) ?_
      exact fun w' h => ⟨_, rfl, h.fr, fun _ => ⟨by omega, by omega⟩⟩

theorem term_w (w : World) :
    Calls Try.prog 33 #[] w fun e w' => e = .returned (.agg (recX (tR 2 1) spN spN spN spN).toArray) ∧ Fr [] w w' := by
  refine calls_of (args := []) ([]) ([]) ([]) Try.func33 rfl rfl (okW0 _ _ _ _) ?_
  refine J_seq ?_
  refine J_region ?_
  refine L_alloc rfl rfl rfl rfl z45la (fun b0 => ?_)
  refine L_nil ?_
  change J _ _ _ _
  refine J_seq ?_
  refine J_region ?_
  refine L_v rfl rfl rfl (V_buildE (v := .agg (recX (tR 2 1) spN spN spN spN).toArray) rfl rfl (fun w => by kernel_rfl)) ?_
  refine L_storeW 0 rfl rfl rfl rfl rfl rfl (szd sz45la (by kernel_rfl)) (all_one (by kernel_rfl)) (by kernel_rfl) ?_
  refine L_nil ?_
  change J _ _ _ _
  refine J_ret ?_
  change Kret _ _ _ Exit.ret _
  refine ret1 rfl rfl (RV_c 0 rfl rfl Try.underlying45 rfl (szd sz45la (by kernel_rfl))) ?_
  exact fun w' h => ⟨rfl, h.fr⟩

theorem entry_w (n : Int) (w : World) :
    Calls Try.prog 14 #[.int .i64 n] w fun e w' => e = .returned (.agg (recX (eR (enN n)) spN spN spN spN).toArray) ∧ Fr [] w w' := by
  refine calls_of (args := [.int .i64 n]) ([]) ([]) ([]) Try.func14 rfl rfl (okW0 _ _ _ _) ?_
  refine J_seq ?_
  refine J_region ?_
  refine L_alloc rfl rfl rfl rfl z45la (fun b0 => ?_)
  refine L_nil ?_
  change J _ _ _ _
  refine J_seq ?_
  refine J_region ?_
  refine L_v rfl rfl rfl (V_move rfl rfl) ?_
  refine L_v rfl rfl rfl (V_buildE (v := .agg (enX (enN n) spN spN).toArray) rfl rfl (fun w => by kernel_rfl)) ?_
  refine L_v rfl rfl rfl (V_buildE (v := .agg (recX (eR (enN n)) spN spN spN spN).toArray) rfl rfl (fun w => by kernel_rfl)) ?_
  refine L_storeW 0 rfl rfl rfl rfl rfl rfl (szd sz45la (by kernel_rfl)) (all_one (by kernel_rfl)) (by kernel_rfl) ?_
  refine L_nil ?_
  change J _ _ _ _
  refine J_ret ?_
  change Kret _ _ _ Exit.ret _
  refine ret1 rfl rfl (RV_c 0 rfl rfl Try.underlying45 rfl (szd sz45la (by kernel_rfl))) ?_
  exact fun w' h => ⟨rfl, h.fr⟩

theorem sign_w (w : World) :
    Calls Try.prog 34 #[] w fun e w' => e = .returned (.agg (recX (gR sgN) spN spN spN spN).toArray) ∧ Fr [] w w' := by
  refine calls_of (args := []) ([]) ([]) ([]) Try.func34 rfl rfl (okW0 _ _ _ _) ?_
  refine J_seq ?_
  refine J_region ?_
  refine L_alloc rfl rfl rfl rfl z45la (fun b0 => ?_)
  refine L_nil ?_
  change J _ _ _ _
  refine J_seq ?_
  refine J_region ?_
  refine L_v rfl rfl rfl (V_buildE (v := .agg (hdV sgN.1).toArray) rfl rfl (fun w => by kernel_rfl)) ?_
  refine L_v rfl rfl rfl (V_buildE (v := .agg (sgV sgN).toArray) rfl rfl (fun w => by kernel_rfl)) ?_
  refine L_v rfl rfl rfl (V_buildE (v := .agg (recX (gR sgN) spN spN spN spN).toArray) rfl rfl (fun w => by kernel_rfl)) ?_
  refine L_storeW 0 rfl rfl rfl rfl rfl rfl (szd sz45la (by kernel_rfl)) (all_one (by kernel_rfl)) (by kernel_rfl) ?_
  refine L_nil ?_
  change J _ _ _ _
  refine J_ret ?_
  change Kret _ _ _ Exit.ret _
  refine ret1 rfl rfl (RV_c 0 rfl rfl Try.underlying45 rfl (szd sz45la (by kernel_rfl))) ?_
  exact fun w' h => ⟨rfl, h.fr⟩

set_option maxHeartbeats 4000000 in
theorem folds_w (w : World) :
    Calls Try.prog 13 #[] w fun e w' => e = .returned (.bool true) ∧ Fr [] w w' := by
  refine calls_of (args := []) ([]) ([]) ([]) Try.func13 rfl rfl (okW0 _ _ _ _) ?_
  refine J_seq ?_
  refine J_region ?_
  refine L_v rfl rfl rfl (V_assign rfl rfl) ?_
  refine L_nil ?_
  change J _ _ _ _
  refine J_seq ?_
  refine J_mid (X := { z : Nat × SvS × Sp × Sp // z.2.1.sv = sv1 }) (fun z9 => { env := [(1, .pointer (some ⟨z9.1.1, 0, none⟩)), (2, .int .i64 0)], mem := [(z9.1.1, row 30 (svX z9.1.2.1 z9.1.2.2.1 z9.1.2.2.2))], facts := [svF z9.1.2.1 z9.1.2.2.1 z9.1.2.2.2] }) ?_ ?_
  ·
    refine J_region ?_
    refine L_v rfl rfl rfl (V_buildE (v := .agg (svX SS0 spN spN).toArray) rfl rfl (fun w => by kernel_rfl)) ?_
    refine L_callV rfl rfl rfl rfl rfl rfl tx33la (fun w1 hw => term_w w1) ?_
    refine L_call rfl rfl rfl rfl tx9la (fun w1 hw => (fold_f SS0 spN spN (tR 2 1) spN spN spN spN w1 svF0 (.and clA_0 clA_0) (sz_of rfl rfl (by decide) (by decide)) ⟨⟨by decide, by decide⟩, by decide, by decide⟩).mono ?_)
    rintro e w' ⟨S1, s1, u1, he, hfr, hn1, hv1⟩
    rw [q1.1] at he
    rw [q1.2.1] at hv1
    subst he
    refine ⟨_, _, _, rfl, hw.newN hfr hn1, rfl, ?_⟩
    refine L_v rfl rfl rfl (V_move rfl rfl) ?_
    refine L_v rfl rfl rfl (V_extract rfl rfl rfl) ?_
    refine L_v rfl rfl rfl (V_extract rfl rfl rfl) ?_
    refine L_alloc rfl rfl rfl rfl z30la (fun b0 => ?_)
    refine L_storeW 0 rfl rfl rfl rfl rfl rfl (szd sz30la (by kernel_rfl)) (all_one (by kernel_rfl)) (by kernel_rfl) ?_
    refine L_v rfl rfl rfl (V_assign rfl rfl) ?_
    refine L_nil ?_
    refine ⟨⟨(b0, S1, s1, u1), hv1⟩, ⟨rfl, rfl, trivial⟩, (List.Sublist.cons_cons _ (List.nil_sublist _)), fun f hf => ?_, rfl⟩
    have hf : f ∈ [svF S1 s1 u1] := hf
    show f ∈ [] ++ [svF S1 s1 u1]
    simp only [List.mem_append, List.mem_cons, List.not_mem_nil, or_false] at hf ⊢
    grind
  rintro ⟨⟨b0, S1, s1, u1⟩, hv1⟩
  change J _ _ _ _
  refine J_seq ?_
  refine J_mid (X := { z : Nat × SvS × Sp × Sp // z.2.1.sv = sv2 }) (fun z9 => { env := [(3, .pointer (some ⟨z9.1.1, 0, none⟩)), (2, .int .i64 0), (4, .int .i64 0)], mem := [(z9.1.1, row 30 (svX z9.1.2.1 z9.1.2.2.1 z9.1.2.2.2))], facts := [svF z9.1.2.1 z9.1.2.2.1 z9.1.2.2.2] }) ?_ ?_
  ·
    refine J_regionO (.pure 0 (.two 1 (.two 2 (.pure 3 (.pure 4 (.pure 5 (.one 6 (.one 7 (.pure 8 (.nil))))))) 6 (.one 2 (.pure 3 (.pure 4 (.pure 5 (.one 7 (.pure 8 (.nil)))))))) 6 (.one 1 (.one 2 (.pure 3 (.pure 4 (.pure 5 (.one 7 (.pure 8 (.nil)))))))))) ([(b0, row 30 (svX S1 s1 u1))]) _ (Pk.of_sub (List.Sublist.cons_cons _ (List.nil_sublist _))) (fun f hf => hf) rfl rfl (by kernel_rfl) ?_
    refine LO_v rfl rfl rfl rfl (V_loadT 0 (vs := svX S1 s1 u1) rfl rfl rfl Try.underlying30 rfl sz30la (by kernel_rfl) (by kernel_rfl)) ?_
    refine LO_both ?_ ?_
    ·
      refine LO_callV rfl rfl rfl rfl rfl rfl rfl rfl tx14la (fun w1 hw => entry_w 1 w1) (Pk.of_sub (List.Sublist.cons_cons _ (List.nil_sublist _))) (fun f hf => hf) ?_
      refine LO_both ?_ ?_
      ·
        refine LO_s rfl rfl rfl (S_call rfl rfl rfl tx9la (fun w1 hw => (fold_f S1 s1 u1 (eR (enN 1)) spN spN spN spN w1 (hw.fa 0 rfl) (.and clA_0 clA_0) (by rw [hv1]; exact sz_of rfl (by kernel_rfl) (by decide) (by decide)) ⟨⟨by decide, by decide⟩, by decide, by decide⟩).mono ?_))
        rintro e w' ⟨S2, s2, u2, he, hfr, hn2, hv2⟩
        rw [hv1] at he hv2
        rw [q2.1] at he
        rw [q2.2.1] at hv2
        subst he
        refine ⟨_, _, _, rfl, hw.newN hfr hn2, rfl, (Pk.of_sub (List.Sublist.cons_cons _ (List.nil_sublist _))), (fun f hf => List.mem_append_left _ hf), ?_⟩
        refine LO_v rfl rfl rfl rfl (V_move rfl rfl) ?_
        refine LO_v rfl rfl rfl rfl (V_extract rfl rfl rfl) ?_
        refine LO_v rfl rfl rfl rfl (V_extract rfl rfl rfl) ?_
        refine LO_s rfl rfl rfl (S_alloc rfl rfl rfl z30la (fun b1 => ⟨(Pk.of_sub (List.Sublist.cons_cons _ (List.nil_sublist _))), (fun f hf => List.mem_append_left _ hf), ?_⟩))
        refine LO_s rfl rfl rfl (S_storeW 1 rfl rfl rfl rfl rfl (szd sz30la (by kernel_rfl)) (all_one (by kernel_rfl)) (by kernel_rfl) ⟨(Pk.of_sub (List.Sublist.cons_cons _ (List.nil_sublist _))), (fun f hf => List.mem_append_left _ hf), ?_⟩)
        refine LO_v rfl rfl rfl rfl (V_assign rfl rfl) ?_
        refine LO_nil ?_
        refine ⟨⟨(b1, S2, s2, u2), hv2⟩, ⟨rfl, rfl, rfl, trivial⟩, (List.Sublist.cons _ (List.Sublist.cons_cons _ (List.nil_sublist _))), fun f hf => ?_, rfl⟩
        have hf : f ∈ [svF S2 s2 u2] := hf
        show f ∈ [svF S1 s1 u1] ++ [svF S2 s2 u2]
        simp only [List.mem_append, List.mem_cons, List.not_mem_nil, or_false] at hf ⊢
        grind
      ·
        refine LO_s rfl rfl rfl (S_alloc rfl rfl rfl z30la (fun b1 => ⟨(Pk.of_sub (List.Sublist.cons_cons _ (List.nil_sublist _))), (fun f hf => hf), ?_⟩))
        refine LO_s rfl rfl rfl (S_call rfl rfl rfl tx9la (fun w1 hw => (fold_f S1 s1 u1 (eR (enN 1)) spN spN spN spN w1 (hw.fa 0 rfl) (.and clA_0 clA_0) (by rw [hv1]; exact sz_of rfl (by kernel_rfl) (by decide) (by decide)) ⟨⟨by decide, by decide⟩, by decide, by decide⟩).mono ?_))
        rintro e w' ⟨S2, s2, u2, he, hfr, hn2, hv2⟩
        rw [hv1] at he hv2
        rw [q2.1] at he
        rw [q2.2.1] at hv2
        subst he
        refine ⟨_, _, _, rfl, hw.newN hfr hn2, rfl, (Pk.of_sub (List.Sublist.cons_cons _ (List.nil_sublist _))), (fun f hf => List.mem_append_left _ hf), ?_⟩
        refine LO_v rfl rfl rfl rfl (V_move rfl rfl) ?_
        refine LO_v rfl rfl rfl rfl (V_extract rfl rfl rfl) ?_
        refine LO_v rfl rfl rfl rfl (V_extract rfl rfl rfl) ?_
        refine LO_s rfl rfl rfl (S_storeW 1 rfl rfl rfl rfl rfl (szd sz30la (by kernel_rfl)) (all_one (by kernel_rfl)) (by kernel_rfl) ⟨(Pk.of_sub (List.Sublist.cons_cons _ (List.nil_sublist _))), (fun f hf => List.mem_append_left _ hf), ?_⟩)
        refine LO_v rfl rfl rfl rfl (V_assign rfl rfl) ?_
        refine LO_nil ?_
        refine ⟨⟨(b1, S2, s2, u2), hv2⟩, ⟨rfl, rfl, rfl, trivial⟩, (List.Sublist.cons _ (List.Sublist.cons_cons _ (List.nil_sublist _))), fun f hf => ?_, rfl⟩
        have hf : f ∈ [svF S2 s2 u2] := hf
        show f ∈ [svF S1 s1 u1] ++ [svF S2 s2 u2]
        simp only [List.mem_append, List.mem_cons, List.not_mem_nil, or_false] at hf ⊢
        grind
    ·
      refine LO_s rfl rfl rfl (S_alloc rfl rfl rfl z30la (fun b1 => ⟨(Pk.of_sub (List.Sublist.cons_cons _ (List.nil_sublist _))), (fun f hf => hf), ?_⟩))
      refine LO_callV rfl rfl rfl rfl rfl rfl rfl rfl tx14la (fun w1 hw => entry_w 1 w1) (Pk.of_sub (List.Sublist.cons_cons _ (List.nil_sublist _))) (fun f hf => hf) ?_
      refine LO_s rfl rfl rfl (S_call rfl rfl rfl tx9la (fun w1 hw => (fold_f S1 s1 u1 (eR (enN 1)) spN spN spN spN w1 (hw.fa 0 rfl) (.and clA_0 clA_0) (by rw [hv1]; exact sz_of rfl (by kernel_rfl) (by decide) (by decide)) ⟨⟨by decide, by decide⟩, by decide, by decide⟩).mono ?_))
      rintro e w' ⟨S2, s2, u2, he, hfr, hn2, hv2⟩
      rw [hv1] at he hv2
      rw [q2.1] at he
      rw [q2.2.1] at hv2
      subst he
      refine ⟨_, _, _, rfl, hw.newN hfr hn2, rfl, (Pk.of_sub (List.Sublist.cons_cons _ (List.nil_sublist _))), (fun f hf => List.mem_append_left _ hf), ?_⟩
      refine LO_v rfl rfl rfl rfl (V_move rfl rfl) ?_
      refine LO_v rfl rfl rfl rfl (V_extract rfl rfl rfl) ?_
      refine LO_v rfl rfl rfl rfl (V_extract rfl rfl rfl) ?_
      refine LO_s rfl rfl rfl (S_storeW 1 rfl rfl rfl rfl rfl (szd sz30la (by kernel_rfl)) (all_one (by kernel_rfl)) (by kernel_rfl) ⟨(Pk.of_sub (List.Sublist.cons_cons _ (List.nil_sublist _))), (fun f hf => List.mem_append_left _ hf), ?_⟩)
      refine LO_v rfl rfl rfl rfl (V_assign rfl rfl) ?_
      refine LO_nil ?_
      refine ⟨⟨(b1, S2, s2, u2), hv2⟩, ⟨rfl, rfl, rfl, trivial⟩, (List.Sublist.cons _ (List.Sublist.cons_cons _ (List.nil_sublist _))), fun f hf => ?_, rfl⟩
      have hf : f ∈ [svF S2 s2 u2] := hf
      show f ∈ [svF S1 s1 u1] ++ [svF S2 s2 u2]
      simp only [List.mem_append, List.mem_cons, List.not_mem_nil, or_false] at hf ⊢
      grind
  rintro ⟨⟨b0, S2, s2, u2⟩, hv2⟩
  change J _ _ _ _
  refine J_seq ?_
  refine J_mid (X := { z : Nat × SvS × Sp × Sp // z.2.1.sv = sv3 }) (fun z9 => { env := [(5, .pointer (some ⟨z9.1.1, 0, none⟩)), (2, .int .i64 0), (4, .int .i64 0), (6, .int .i64 0)], mem := [(z9.1.1, row 30 (svX z9.1.2.1 z9.1.2.2.1 z9.1.2.2.2))], facts := [svF z9.1.2.1 z9.1.2.2.1 z9.1.2.2.2] }) ?_ ?_
  ·
    refine J_regionO (.pure 0 (.two 1 (.two 2 (.pure 3 (.pure 4 (.pure 5 (.one 6 (.one 7 (.pure 8 (.nil))))))) 6 (.one 2 (.pure 3 (.pure 4 (.pure 5 (.one 7 (.pure 8 (.nil)))))))) 6 (.one 1 (.one 2 (.pure 3 (.pure 4 (.pure 5 (.one 7 (.pure 8 (.nil)))))))))) ([(b0, row 30 (svX S2 s2 u2))]) _ (Pk.of_sub (List.Sublist.cons_cons _ (List.nil_sublist _))) (fun f hf => hf) rfl rfl (by kernel_rfl) ?_
    refine LO_v rfl rfl rfl rfl (V_loadT 0 (vs := svX S2 s2 u2) rfl rfl rfl Try.underlying30 rfl sz30la (by kernel_rfl) (by kernel_rfl)) ?_
    refine LO_both ?_ ?_
    ·
      refine LO_callV rfl rfl rfl rfl rfl rfl rfl rfl tx14la (fun w1 hw => entry_w 2 w1) (Pk.of_sub (List.Sublist.cons_cons _ (List.nil_sublist _))) (fun f hf => hf) ?_
      refine LO_both ?_ ?_
      ·
        refine LO_s rfl rfl rfl (S_call rfl rfl rfl tx9la (fun w1 hw => (fold_f S2 s2 u2 (eR (enN 2)) spN spN spN spN w1 (hw.fa 0 rfl) (.and clA_0 clA_0) (by rw [hv2]; exact sz_of rfl (by kernel_rfl) (by decide) (by decide)) ⟨⟨by decide, by decide⟩, by decide, by decide⟩).mono ?_))
        rintro e w' ⟨S3, s3, u3, he, hfr, hn3, hv3⟩
        rw [hv2] at he hv3
        rw [q3.1] at he
        rw [q3.2.1] at hv3
        subst he
        refine ⟨_, _, _, rfl, hw.newN hfr hn3, rfl, (Pk.of_sub (List.Sublist.cons_cons _ (List.nil_sublist _))), (fun f hf => List.mem_append_left _ hf), ?_⟩
        refine LO_v rfl rfl rfl rfl (V_move rfl rfl) ?_
        refine LO_v rfl rfl rfl rfl (V_extract rfl rfl rfl) ?_
        refine LO_v rfl rfl rfl rfl (V_extract rfl rfl rfl) ?_
        refine LO_s rfl rfl rfl (S_alloc rfl rfl rfl z30la (fun b1 => ⟨(Pk.of_sub (List.Sublist.cons_cons _ (List.nil_sublist _))), (fun f hf => List.mem_append_left _ hf), ?_⟩))
        refine LO_s rfl rfl rfl (S_storeW 1 rfl rfl rfl rfl rfl (szd sz30la (by kernel_rfl)) (all_one (by kernel_rfl)) (by kernel_rfl) ⟨(Pk.of_sub (List.Sublist.cons_cons _ (List.nil_sublist _))), (fun f hf => List.mem_append_left _ hf), ?_⟩)
        refine LO_v rfl rfl rfl rfl (V_assign rfl rfl) ?_
        refine LO_nil ?_
        refine ⟨⟨(b1, S3, s3, u3), hv3⟩, ⟨rfl, rfl, rfl, rfl, trivial⟩, (List.Sublist.cons _ (List.Sublist.cons_cons _ (List.nil_sublist _))), fun f hf => ?_, rfl⟩
        have hf : f ∈ [svF S3 s3 u3] := hf
        show f ∈ [svF S2 s2 u2] ++ [svF S3 s3 u3]
        simp only [List.mem_append, List.mem_cons, List.not_mem_nil, or_false] at hf ⊢
        grind
      ·
        refine LO_s rfl rfl rfl (S_alloc rfl rfl rfl z30la (fun b1 => ⟨(Pk.of_sub (List.Sublist.cons_cons _ (List.nil_sublist _))), (fun f hf => hf), ?_⟩))
        refine LO_s rfl rfl rfl (S_call rfl rfl rfl tx9la (fun w1 hw => (fold_f S2 s2 u2 (eR (enN 2)) spN spN spN spN w1 (hw.fa 0 rfl) (.and clA_0 clA_0) (by rw [hv2]; exact sz_of rfl (by kernel_rfl) (by decide) (by decide)) ⟨⟨by decide, by decide⟩, by decide, by decide⟩).mono ?_))
        rintro e w' ⟨S3, s3, u3, he, hfr, hn3, hv3⟩
        rw [hv2] at he hv3
        rw [q3.1] at he
        rw [q3.2.1] at hv3
        subst he
        refine ⟨_, _, _, rfl, hw.newN hfr hn3, rfl, (Pk.of_sub (List.Sublist.cons_cons _ (List.nil_sublist _))), (fun f hf => List.mem_append_left _ hf), ?_⟩
        refine LO_v rfl rfl rfl rfl (V_move rfl rfl) ?_
        refine LO_v rfl rfl rfl rfl (V_extract rfl rfl rfl) ?_
        refine LO_v rfl rfl rfl rfl (V_extract rfl rfl rfl) ?_
        refine LO_s rfl rfl rfl (S_storeW 1 rfl rfl rfl rfl rfl (szd sz30la (by kernel_rfl)) (all_one (by kernel_rfl)) (by kernel_rfl) ⟨(Pk.of_sub (List.Sublist.cons_cons _ (List.nil_sublist _))), (fun f hf => List.mem_append_left _ hf), ?_⟩)
        refine LO_v rfl rfl rfl rfl (V_assign rfl rfl) ?_
        refine LO_nil ?_
        refine ⟨⟨(b1, S3, s3, u3), hv3⟩, ⟨rfl, rfl, rfl, rfl, trivial⟩, (List.Sublist.cons _ (List.Sublist.cons_cons _ (List.nil_sublist _))), fun f hf => ?_, rfl⟩
        have hf : f ∈ [svF S3 s3 u3] := hf
        show f ∈ [svF S2 s2 u2] ++ [svF S3 s3 u3]
        simp only [List.mem_append, List.mem_cons, List.not_mem_nil, or_false] at hf ⊢
        grind
    ·
      refine LO_s rfl rfl rfl (S_alloc rfl rfl rfl z30la (fun b1 => ⟨(Pk.of_sub (List.Sublist.cons_cons _ (List.nil_sublist _))), (fun f hf => hf), ?_⟩))
      refine LO_callV rfl rfl rfl rfl rfl rfl rfl rfl tx14la (fun w1 hw => entry_w 2 w1) (Pk.of_sub (List.Sublist.cons_cons _ (List.nil_sublist _))) (fun f hf => hf) ?_
      refine LO_s rfl rfl rfl (S_call rfl rfl rfl tx9la (fun w1 hw => (fold_f S2 s2 u2 (eR (enN 2)) spN spN spN spN w1 (hw.fa 0 rfl) (.and clA_0 clA_0) (by rw [hv2]; exact sz_of rfl (by kernel_rfl) (by decide) (by decide)) ⟨⟨by decide, by decide⟩, by decide, by decide⟩).mono ?_))
      rintro e w' ⟨S3, s3, u3, he, hfr, hn3, hv3⟩
      rw [hv2] at he hv3
      rw [q3.1] at he
      rw [q3.2.1] at hv3
      subst he
      refine ⟨_, _, _, rfl, hw.newN hfr hn3, rfl, (Pk.of_sub (List.Sublist.cons_cons _ (List.nil_sublist _))), (fun f hf => List.mem_append_left _ hf), ?_⟩
      refine LO_v rfl rfl rfl rfl (V_move rfl rfl) ?_
      refine LO_v rfl rfl rfl rfl (V_extract rfl rfl rfl) ?_
      refine LO_v rfl rfl rfl rfl (V_extract rfl rfl rfl) ?_
      refine LO_s rfl rfl rfl (S_storeW 1 rfl rfl rfl rfl rfl (szd sz30la (by kernel_rfl)) (all_one (by kernel_rfl)) (by kernel_rfl) ⟨(Pk.of_sub (List.Sublist.cons_cons _ (List.nil_sublist _))), (fun f hf => List.mem_append_left _ hf), ?_⟩)
      refine LO_v rfl rfl rfl rfl (V_assign rfl rfl) ?_
      refine LO_nil ?_
      refine ⟨⟨(b1, S3, s3, u3), hv3⟩, ⟨rfl, rfl, rfl, rfl, trivial⟩, (List.Sublist.cons _ (List.Sublist.cons_cons _ (List.nil_sublist _))), fun f hf => ?_, rfl⟩
      have hf : f ∈ [svF S3 s3 u3] := hf
      show f ∈ [svF S2 s2 u2] ++ [svF S3 s3 u3]
      simp only [List.mem_append, List.mem_cons, List.not_mem_nil, or_false] at hf ⊢
      grind
  rintro ⟨⟨b0, S3, s3, u3⟩, hv3⟩
  change J _ _ _ _
  refine J_seq ?_
  refine J_mid (X := { z : Nat × SvS × Sp × Sp // z.2.1.sv = sv2 }) (fun z9 => { env := [(5, .pointer (some ⟨b0, 0, none⟩)), (7, .pointer (some ⟨z9.1.1, 0, none⟩)), (2, .int .i64 0), (4, .int .i64 0), (6, .int .i64 0), (8, .int .i64 0)], mem := [(b0, row 30 (svX S3 s3 u3)), (z9.1.1, row 30 (svX z9.1.2.1 z9.1.2.2.1 z9.1.2.2.2))], facts := [svF S3 s3 u3, svF z9.1.2.1 z9.1.2.2.1 z9.1.2.2.2] }) ?_ ?_
  ·
    refine J_region ?_
    refine L_v rfl rfl rfl (V_loadT 0 (vs := svX S3 s3 u3) rfl rfl rfl Try.underlying30 rfl sz30la (by kernel_rfl) (by kernel_rfl)) ?_
    refine L_v rfl rfl rfl (V_buildE (v := .agg (recX (cR 2) spN spN spN spN).toArray) rfl rfl (fun w => by kernel_rfl)) ?_
    refine L_call rfl rfl rfl rfl tx9la (fun w1 hw => (fold_f S3 s3 u3 (cR 2) spN spN spN spN w1 (hw.fa 0 rfl) (.and clA_0 clA_0) (by rw [hv3]; exact sz_of rfl (by kernel_rfl) (by decide) (by decide)) ⟨⟨by decide, by decide⟩, by decide, by decide⟩).mono ?_)
    rintro e w' ⟨S4, s4, u4, he, hfr, hn4, hv4⟩
    rw [hv3] at he hv4
    rw [q4.1] at he
    rw [q4.2.1] at hv4
    subst he
    refine ⟨_, _, _, rfl, hw.newN hfr hn4, rfl, ?_⟩
    refine L_v rfl rfl rfl (V_move rfl rfl) ?_
    refine L_v rfl rfl rfl (V_extract rfl rfl rfl) ?_
    refine L_v rfl rfl rfl (V_extract rfl rfl rfl) ?_
    refine L_alloc rfl rfl rfl rfl z30la (fun b1 => ?_)
    refine L_storeW 1 rfl rfl rfl rfl rfl rfl (szd sz30la (by kernel_rfl)) (all_one (by kernel_rfl)) (by kernel_rfl) ?_
    refine L_v rfl rfl rfl (V_assign rfl rfl) ?_
    refine L_nil ?_
    refine ⟨⟨(b1, S4, s4, u4), hv4⟩, ⟨rfl, rfl, rfl, rfl, rfl, rfl, trivial⟩, (List.Sublist.cons_cons _ (List.Sublist.cons_cons _ (List.nil_sublist _))), fun f hf => ?_, rfl⟩
    have hf : f ∈ [svF S3 s3 u3, svF S4 s4 u4] := hf
    show f ∈ [svF S3 s3 u3] ++ [svF S4 s4 u4]
    simp only [List.mem_append, List.mem_cons, List.not_mem_nil, or_false] at hf ⊢
    grind
  rintro ⟨⟨b1, S4, s4, u4⟩, hv4⟩
  change J _ _ _ _
  refine J_seq ?_
  refine J_mid (X := Unit) (fun z9 => { env := [(5, .pointer (some ⟨b0, 0, none⟩)), (7, .pointer (some ⟨b1, 0, none⟩)), (2, .int .i64 0), (4, .int .i64 0), (6, .int .i64 0), (8, .int .i64 0), (10, .int .i64 110)], mem := [(b0, row 30 (svX S3 s3 u3)), (b1, row 30 (svX S4 s4 u4))], facts := [svF S3 s3 u3, svF S4 s4 u4] }) ?_ ?_
  ·
    refine J_regionO (.pure 0 (.two 1 (.two 2 (.pure 3 (.pure 4 (.pure 5 (.one 6 (.one 7 (.pure 8 (.nil))))))) 6 (.one 2 (.pure 3 (.pure 4 (.pure 5 (.one 7 (.pure 8 (.nil)))))))) 6 (.one 1 (.one 2 (.pure 3 (.pure 4 (.pure 5 (.one 7 (.pure 8 (.nil)))))))))) ([(b0, row 30 (svX S3 s3 u3)), (b1, row 30 (svX S4 s4 u4))]) _ (Pk.of_sub (List.Sublist.cons_cons _ (List.Sublist.cons_cons _ (List.nil_sublist _)))) (fun f hf => hf) rfl rfl (by kernel_rfl) ?_
    refine LO_v rfl rfl rfl rfl (V_loadT 1 (vs := svX S4 s4 u4) rfl rfl rfl Try.underlying30 rfl sz30la (by kernel_rfl) (by kernel_rfl)) ?_
    refine LO_both ?_ ?_
    ·
      refine LO_callV rfl rfl rfl rfl rfl rfl rfl rfl tx14la (fun w1 hw => entry_w 3 w1) (Pk.of_sub (List.Sublist.cons_cons _ (List.Sublist.cons_cons _ (List.nil_sublist _)))) (fun f hf => hf) ?_
      refine LO_both ?_ ?_
      ·
        refine LO_s rfl rfl rfl (S_call rfl rfl rfl tx9la (fun w1 hw => (fold_f S4 s4 u4 (eR (enN 3)) spN spN spN spN w1 (hw.fa 1 rfl) (.and clA_0 clA_0) (by rw [hv4]; exact sz_of rfl (by kernel_rfl) (by decide) (by decide)) ⟨⟨by decide, by decide⟩, by decide, by decide⟩).mono ?_))
        rintro e w' ⟨S5, s5, u5, he, hfr, hn5, hv5⟩
        rw [hv4] at he hv5
        rw [q5] at he
        subst he
        refine ⟨_, _, _, rfl, hw.newN hfr hn5, rfl, (Pk.of_sub (List.Sublist.cons_cons _ (List.Sublist.cons_cons _ (List.nil_sublist _)))), (fun f hf => List.mem_append_left _ hf), ?_⟩
        refine LO_v rfl rfl rfl rfl (V_move rfl rfl) ?_
        refine LO_v rfl rfl rfl rfl (V_extract rfl rfl rfl) ?_
        refine LO_v rfl rfl rfl rfl (V_extract rfl rfl rfl) ?_
        refine LO_s rfl rfl rfl (S_alloc rfl rfl rfl z30la (fun b2 => ⟨(Pk.of_sub (List.Sublist.cons_cons _ (List.Sublist.cons_cons _ (List.nil_sublist _)))), (fun f hf => List.mem_append_left _ hf), ?_⟩))
        refine LO_s rfl rfl rfl (S_storeW 2 rfl rfl rfl rfl rfl (szd sz30la (by kernel_rfl)) (all_one (by kernel_rfl)) (by kernel_rfl) ⟨(Pk.of_sub (List.Sublist.cons_cons _ (List.Sublist.cons_cons _ (List.nil_sublist _)))), (fun f hf => List.mem_append_left _ hf), ?_⟩)
        refine LO_v rfl rfl rfl rfl (V_assign rfl rfl) ?_
        refine LO_nil ?_
        refine ⟨(), ⟨rfl, rfl, rfl, rfl, rfl, rfl, rfl, trivial⟩, (List.Sublist.cons_cons _ (List.Sublist.cons_cons _ (List.nil_sublist _))), fun f hf => ?_, rfl⟩
        have hf : f ∈ [svF S3 s3 u3, svF S4 s4 u4] := hf
        show f ∈ [svF S3 s3 u3, svF S4 s4 u4] ++ [svF S5 s5 u5]
        simp only [List.mem_append, List.mem_cons, List.not_mem_nil, or_false] at hf ⊢
        grind
      ·
        refine LO_s rfl rfl rfl (S_alloc rfl rfl rfl z30la (fun b2 => ⟨(Pk.of_sub (List.Sublist.cons_cons _ (List.Sublist.cons_cons _ (List.nil_sublist _)))), (fun f hf => hf), ?_⟩))
        refine LO_s rfl rfl rfl (S_call rfl rfl rfl tx9la (fun w1 hw => (fold_f S4 s4 u4 (eR (enN 3)) spN spN spN spN w1 (hw.fa 1 rfl) (.and clA_0 clA_0) (by rw [hv4]; exact sz_of rfl (by kernel_rfl) (by decide) (by decide)) ⟨⟨by decide, by decide⟩, by decide, by decide⟩).mono ?_))
        rintro e w' ⟨S5, s5, u5, he, hfr, hn5, hv5⟩
        rw [hv4] at he hv5
        rw [q5] at he
        subst he
        refine ⟨_, _, _, rfl, hw.newN hfr hn5, rfl, (Pk.of_sub (List.Sublist.cons_cons _ (List.Sublist.cons_cons _ (List.nil_sublist _)))), (fun f hf => List.mem_append_left _ hf), ?_⟩
        refine LO_v rfl rfl rfl rfl (V_move rfl rfl) ?_
        refine LO_v rfl rfl rfl rfl (V_extract rfl rfl rfl) ?_
        refine LO_v rfl rfl rfl rfl (V_extract rfl rfl rfl) ?_
        refine LO_s rfl rfl rfl (S_storeW 2 rfl rfl rfl rfl rfl (szd sz30la (by kernel_rfl)) (all_one (by kernel_rfl)) (by kernel_rfl) ⟨(Pk.of_sub (List.Sublist.cons_cons _ (List.Sublist.cons_cons _ (List.nil_sublist _)))), (fun f hf => List.mem_append_left _ hf), ?_⟩)
        refine LO_v rfl rfl rfl rfl (V_assign rfl rfl) ?_
        refine LO_nil ?_
        refine ⟨(), ⟨rfl, rfl, rfl, rfl, rfl, rfl, rfl, trivial⟩, (List.Sublist.cons_cons _ (List.Sublist.cons_cons _ (List.nil_sublist _))), fun f hf => ?_, rfl⟩
        have hf : f ∈ [svF S3 s3 u3, svF S4 s4 u4] := hf
        show f ∈ [svF S3 s3 u3, svF S4 s4 u4] ++ [svF S5 s5 u5]
        simp only [List.mem_append, List.mem_cons, List.not_mem_nil, or_false] at hf ⊢
        grind
    ·
      refine LO_s rfl rfl rfl (S_alloc rfl rfl rfl z30la (fun b2 => ⟨(Pk.of_sub (List.Sublist.cons_cons _ (List.Sublist.cons_cons _ (List.nil_sublist _)))), (fun f hf => hf), ?_⟩))
      refine LO_callV rfl rfl rfl rfl rfl rfl rfl rfl tx14la (fun w1 hw => entry_w 3 w1) (Pk.of_sub (List.Sublist.cons_cons _ (List.Sublist.cons_cons _ (List.nil_sublist _)))) (fun f hf => hf) ?_
      refine LO_s rfl rfl rfl (S_call rfl rfl rfl tx9la (fun w1 hw => (fold_f S4 s4 u4 (eR (enN 3)) spN spN spN spN w1 (hw.fa 1 rfl) (.and clA_0 clA_0) (by rw [hv4]; exact sz_of rfl (by kernel_rfl) (by decide) (by decide)) ⟨⟨by decide, by decide⟩, by decide, by decide⟩).mono ?_))
      rintro e w' ⟨S5, s5, u5, he, hfr, hn5, hv5⟩
      rw [hv4] at he hv5
      rw [q5] at he
      subst he
      refine ⟨_, _, _, rfl, hw.newN hfr hn5, rfl, (Pk.of_sub (List.Sublist.cons_cons _ (List.Sublist.cons_cons _ (List.nil_sublist _)))), (fun f hf => List.mem_append_left _ hf), ?_⟩
      refine LO_v rfl rfl rfl rfl (V_move rfl rfl) ?_
      refine LO_v rfl rfl rfl rfl (V_extract rfl rfl rfl) ?_
      refine LO_v rfl rfl rfl rfl (V_extract rfl rfl rfl) ?_
      refine LO_s rfl rfl rfl (S_storeW 2 rfl rfl rfl rfl rfl (szd sz30la (by kernel_rfl)) (all_one (by kernel_rfl)) (by kernel_rfl) ⟨(Pk.of_sub (List.Sublist.cons_cons _ (List.Sublist.cons_cons _ (List.nil_sublist _)))), (fun f hf => List.mem_append_left _ hf), ?_⟩)
      refine LO_v rfl rfl rfl rfl (V_assign rfl rfl) ?_
      refine LO_nil ?_
      refine ⟨(), ⟨rfl, rfl, rfl, rfl, rfl, rfl, rfl, trivial⟩, (List.Sublist.cons_cons _ (List.Sublist.cons_cons _ (List.nil_sublist _))), fun f hf => ?_, rfl⟩
      have hf : f ∈ [svF S3 s3 u3, svF S4 s4 u4] := hf
      show f ∈ [svF S3 s3 u3, svF S4 s4 u4] ++ [svF S5 s5 u5]
      simp only [List.mem_append, List.mem_cons, List.not_mem_nil, or_false] at hf ⊢
      grind
  rintro ⟨⟩
  change J _ _ _ _
  refine J_seq ?_
  refine J_mid (X := { z : Nat × SvS × Sp × Sp // z.2.1.sv = sv6 }) (fun z9 => { env := [(5, .pointer (some ⟨b0, 0, none⟩)), (7, .pointer (some ⟨b1, 0, none⟩)), (11, .pointer (some ⟨z9.1.1, 0, none⟩)), (2, .int .i64 0), (4, .int .i64 0), (6, .int .i64 0), (8, .int .i64 0), (10, .int .i64 110), (12, .int .i64 0)], mem := [(b0, row 30 (svX S3 s3 u3)), (b1, row 30 (svX S4 s4 u4)), (z9.1.1, row 30 (svX z9.1.2.1 z9.1.2.2.1 z9.1.2.2.2))], facts := [svF S3 s3 u3, svF S4 s4 u4, svF z9.1.2.1 z9.1.2.2.1 z9.1.2.2.2] }) ?_ ?_
  ·
    refine J_regionO (.pure 0 (.two 1 (.two 2 (.pure 3 (.pure 4 (.pure 5 (.one 6 (.one 7 (.pure 8 (.nil))))))) 6 (.one 2 (.pure 3 (.pure 4 (.pure 5 (.one 7 (.pure 8 (.nil)))))))) 6 (.one 1 (.one 2 (.pure 3 (.pure 4 (.pure 5 (.one 7 (.pure 8 (.nil)))))))))) ([(b0, row 30 (svX S3 s3 u3)), (b1, row 30 (svX S4 s4 u4))]) _ (Pk.of_sub (List.Sublist.cons_cons _ (List.Sublist.cons_cons _ (List.nil_sublist _)))) (fun f hf => hf) rfl rfl (by kernel_rfl) ?_
    refine LO_v rfl rfl rfl rfl (V_loadT 1 (vs := svX S4 s4 u4) rfl rfl rfl Try.underlying30 rfl sz30la (by kernel_rfl) (by kernel_rfl)) ?_
    refine LO_both ?_ ?_
    ·
      refine LO_callV rfl rfl rfl rfl rfl rfl rfl rfl tx34la (fun w1 hw => sign_w w1) (Pk.of_sub (List.Sublist.cons_cons _ (List.Sublist.cons_cons _ (List.nil_sublist _)))) (fun f hf => hf) ?_
      refine LO_both ?_ ?_
      ·
        refine LO_s rfl rfl rfl (S_call rfl rfl rfl tx9la (fun w1 hw => (fold_f S4 s4 u4 (gR sgN) spN spN spN spN w1 (hw.fa 1 rfl) (.and clA_0 clA_0) (by rw [hv4]; exact sz_of rfl (by kernel_rfl) (by decide) (by decide)) ⟨⟨by decide, by decide⟩, by decide, by decide⟩).mono ?_))
        rintro e w' ⟨S6, s6, u6, he, hfr, hn6, hv6⟩
        rw [hv4] at he hv6
        rw [q6.1] at he
        rw [q6.2.1] at hv6
        subst he
        refine ⟨_, _, _, rfl, hw.newN hfr hn6, rfl, (Pk.of_sub (List.Sublist.cons_cons _ (List.Sublist.cons_cons _ (List.nil_sublist _)))), (fun f hf => List.mem_append_left _ hf), ?_⟩
        refine LO_v rfl rfl rfl rfl (V_move rfl rfl) ?_
        refine LO_v rfl rfl rfl rfl (V_extract rfl rfl rfl) ?_
        refine LO_v rfl rfl rfl rfl (V_extract rfl rfl rfl) ?_
        refine LO_s rfl rfl rfl (S_alloc rfl rfl rfl z30la (fun b2 => ⟨(Pk.of_sub (List.Sublist.cons_cons _ (List.Sublist.cons_cons _ (List.nil_sublist _)))), (fun f hf => List.mem_append_left _ hf), ?_⟩))
        refine LO_s rfl rfl rfl (S_storeW 2 rfl rfl rfl rfl rfl (szd sz30la (by kernel_rfl)) (all_one (by kernel_rfl)) (by kernel_rfl) ⟨(Pk.of_sub (List.Sublist.cons_cons _ (List.Sublist.cons_cons _ (List.nil_sublist _)))), (fun f hf => List.mem_append_left _ hf), ?_⟩)
        refine LO_v rfl rfl rfl rfl (V_assign rfl rfl) ?_
        refine LO_nil ?_
        refine ⟨⟨(b2, S6, s6, u6), hv6⟩, ⟨rfl, rfl, rfl, rfl, rfl, rfl, rfl, rfl, rfl, trivial⟩, (List.Sublist.cons_cons _ (List.Sublist.cons_cons _ (List.Sublist.cons_cons _ (List.nil_sublist _)))), fun f hf => ?_, rfl⟩
        have hf : f ∈ [svF S3 s3 u3, svF S4 s4 u4, svF S6 s6 u6] := hf
        show f ∈ [svF S3 s3 u3, svF S4 s4 u4] ++ [svF S6 s6 u6]
        simp only [List.mem_append, List.mem_cons, List.not_mem_nil, or_false] at hf ⊢
        grind
      ·
        refine LO_s rfl rfl rfl (S_alloc rfl rfl rfl z30la (fun b2 => ⟨(Pk.of_sub (List.Sublist.cons_cons _ (List.Sublist.cons_cons _ (List.nil_sublist _)))), (fun f hf => hf), ?_⟩))
        refine LO_s rfl rfl rfl (S_call rfl rfl rfl tx9la (fun w1 hw => (fold_f S4 s4 u4 (gR sgN) spN spN spN spN w1 (hw.fa 1 rfl) (.and clA_0 clA_0) (by rw [hv4]; exact sz_of rfl (by kernel_rfl) (by decide) (by decide)) ⟨⟨by decide, by decide⟩, by decide, by decide⟩).mono ?_))
        rintro e w' ⟨S6, s6, u6, he, hfr, hn6, hv6⟩
        rw [hv4] at he hv6
        rw [q6.1] at he
        rw [q6.2.1] at hv6
        subst he
        refine ⟨_, _, _, rfl, hw.newN hfr hn6, rfl, (Pk.of_sub (List.Sublist.cons_cons _ (List.Sublist.cons_cons _ (List.nil_sublist _)))), (fun f hf => List.mem_append_left _ hf), ?_⟩
        refine LO_v rfl rfl rfl rfl (V_move rfl rfl) ?_
        refine LO_v rfl rfl rfl rfl (V_extract rfl rfl rfl) ?_
        refine LO_v rfl rfl rfl rfl (V_extract rfl rfl rfl) ?_
        refine LO_s rfl rfl rfl (S_storeW 2 rfl rfl rfl rfl rfl (szd sz30la (by kernel_rfl)) (all_one (by kernel_rfl)) (by kernel_rfl) ⟨(Pk.of_sub (List.Sublist.cons_cons _ (List.Sublist.cons_cons _ (List.nil_sublist _)))), (fun f hf => List.mem_append_left _ hf), ?_⟩)
        refine LO_v rfl rfl rfl rfl (V_assign rfl rfl) ?_
        refine LO_nil ?_
        refine ⟨⟨(b2, S6, s6, u6), hv6⟩, ⟨rfl, rfl, rfl, rfl, rfl, rfl, rfl, rfl, rfl, trivial⟩, (List.Sublist.cons_cons _ (List.Sublist.cons_cons _ (List.Sublist.cons_cons _ (List.nil_sublist _)))), fun f hf => ?_, rfl⟩
        have hf : f ∈ [svF S3 s3 u3, svF S4 s4 u4, svF S6 s6 u6] := hf
        show f ∈ [svF S3 s3 u3, svF S4 s4 u4] ++ [svF S6 s6 u6]
        simp only [List.mem_append, List.mem_cons, List.not_mem_nil, or_false] at hf ⊢
        grind
    ·
      refine LO_s rfl rfl rfl (S_alloc rfl rfl rfl z30la (fun b2 => ⟨(Pk.of_sub (List.Sublist.cons_cons _ (List.Sublist.cons_cons _ (List.nil_sublist _)))), (fun f hf => hf), ?_⟩))
      refine LO_callV rfl rfl rfl rfl rfl rfl rfl rfl tx34la (fun w1 hw => sign_w w1) (Pk.of_sub (List.Sublist.cons_cons _ (List.Sublist.cons_cons _ (List.nil_sublist _)))) (fun f hf => hf) ?_
      refine LO_s rfl rfl rfl (S_call rfl rfl rfl tx9la (fun w1 hw => (fold_f S4 s4 u4 (gR sgN) spN spN spN spN w1 (hw.fa 1 rfl) (.and clA_0 clA_0) (by rw [hv4]; exact sz_of rfl (by kernel_rfl) (by decide) (by decide)) ⟨⟨by decide, by decide⟩, by decide, by decide⟩).mono ?_))
      rintro e w' ⟨S6, s6, u6, he, hfr, hn6, hv6⟩
      rw [hv4] at he hv6
      rw [q6.1] at he
      rw [q6.2.1] at hv6
      subst he
      refine ⟨_, _, _, rfl, hw.newN hfr hn6, rfl, (Pk.of_sub (List.Sublist.cons_cons _ (List.Sublist.cons_cons _ (List.nil_sublist _)))), (fun f hf => List.mem_append_left _ hf), ?_⟩
      refine LO_v rfl rfl rfl rfl (V_move rfl rfl) ?_
      refine LO_v rfl rfl rfl rfl (V_extract rfl rfl rfl) ?_
      refine LO_v rfl rfl rfl rfl (V_extract rfl rfl rfl) ?_
      refine LO_s rfl rfl rfl (S_storeW 2 rfl rfl rfl rfl rfl (szd sz30la (by kernel_rfl)) (all_one (by kernel_rfl)) (by kernel_rfl) ⟨(Pk.of_sub (List.Sublist.cons_cons _ (List.Sublist.cons_cons _ (List.nil_sublist _)))), (fun f hf => List.mem_append_left _ hf), ?_⟩)
      refine LO_v rfl rfl rfl rfl (V_assign rfl rfl) ?_
      refine LO_nil ?_
      refine ⟨⟨(b2, S6, s6, u6), hv6⟩, ⟨rfl, rfl, rfl, rfl, rfl, rfl, rfl, rfl, rfl, trivial⟩, (List.Sublist.cons_cons _ (List.Sublist.cons_cons _ (List.Sublist.cons_cons _ (List.nil_sublist _)))), fun f hf => ?_, rfl⟩
      have hf : f ∈ [svF S3 s3 u3, svF S4 s4 u4, svF S6 s6 u6] := hf
      show f ∈ [svF S3 s3 u3, svF S4 s4 u4] ++ [svF S6 s6 u6]
      simp only [List.mem_append, List.mem_cons, List.not_mem_nil, or_false] at hf ⊢
      grind
  rintro ⟨⟨b2, S6, s6, u6⟩, hv6⟩
  change J _ _ _ _
  refine J_seq ?_
  refine J_mid (X := Unit) (fun z9 => { env := [(5, .pointer (some ⟨b0, 0, none⟩)), (7, .pointer (some ⟨b1, 0, none⟩)), (11, .pointer (some ⟨b2, 0, none⟩)), (2, .int .i64 0), (4, .int .i64 0), (6, .int .i64 0), (8, .int .i64 0), (10, .int .i64 110), (12, .int .i64 0), (14, .int .i64 110)], mem := [(b0, row 30 (svX S3 s3 u3)), (b1, row 30 (svX S4 s4 u4)), (b2, row 30 (svX S6 s6 u6))], facts := [svF S3 s3 u3, svF S4 s4 u4, svF S6 s6 u6] }) ?_ ?_
  ·
    refine J_regionO (.pure 0 (.two 1 (.two 2 (.pure 3 (.pure 4 (.pure 5 (.one 6 (.one 7 (.pure 8 (.nil))))))) 6 (.one 2 (.pure 3 (.pure 4 (.pure 5 (.one 7 (.pure 8 (.nil)))))))) 6 (.one 1 (.one 2 (.pure 3 (.pure 4 (.pure 5 (.one 7 (.pure 8 (.nil)))))))))) ([(b0, row 30 (svX S3 s3 u3)), (b1, row 30 (svX S4 s4 u4)), (b2, row 30 (svX S6 s6 u6))]) _ (Pk.of_sub (List.Sublist.cons_cons _ (List.Sublist.cons_cons _ (List.Sublist.cons_cons _ (List.nil_sublist _))))) (fun f hf => hf) rfl rfl (by kernel_rfl) ?_
    refine LO_v rfl rfl rfl rfl (V_loadT 2 (vs := svX S6 s6 u6) rfl rfl rfl Try.underlying30 rfl sz30la (by kernel_rfl) (by kernel_rfl)) ?_
    refine LO_both ?_ ?_
    ·
      refine LO_callV rfl rfl rfl rfl rfl rfl rfl rfl tx34la (fun w1 hw => sign_w w1) (Pk.of_sub (List.Sublist.cons_cons _ (List.Sublist.cons_cons _ (List.Sublist.cons_cons _ (List.nil_sublist _))))) (fun f hf => hf) ?_
      refine LO_both ?_ ?_
      ·
        refine LO_s rfl rfl rfl (S_call rfl rfl rfl tx9la (fun w1 hw => (fold_f S6 s6 u6 (gR sgN) spN spN spN spN w1 (hw.fa 2 rfl) (.and clA_0 clA_0) (by rw [hv6]; exact sz_of rfl (by kernel_rfl) (by decide) (by decide)) ⟨⟨by decide, by decide⟩, by decide, by decide⟩).mono ?_))
        rintro e w' ⟨S7, s7, u7, he, hfr, hn7, hv7⟩
        rw [hv6] at he hv7
        rw [q7] at he
        subst he
        refine ⟨_, _, _, rfl, hw.newN hfr hn7, rfl, (Pk.of_sub (List.Sublist.cons_cons _ (List.Sublist.cons_cons _ (List.Sublist.cons_cons _ (List.nil_sublist _))))), (fun f hf => List.mem_append_left _ hf), ?_⟩
        refine LO_v rfl rfl rfl rfl (V_move rfl rfl) ?_
        refine LO_v rfl rfl rfl rfl (V_extract rfl rfl rfl) ?_
        refine LO_v rfl rfl rfl rfl (V_extract rfl rfl rfl) ?_
        refine LO_s rfl rfl rfl (S_alloc rfl rfl rfl z30la (fun b3 => ⟨(Pk.of_sub (List.Sublist.cons_cons _ (List.Sublist.cons_cons _ (List.Sublist.cons_cons _ (List.nil_sublist _))))), (fun f hf => List.mem_append_left _ hf), ?_⟩))
        refine LO_s rfl rfl rfl (S_storeW 3 rfl rfl rfl rfl rfl (szd sz30la (by kernel_rfl)) (all_one (by kernel_rfl)) (by kernel_rfl) ⟨(Pk.of_sub (List.Sublist.cons_cons _ (List.Sublist.cons_cons _ (List.Sublist.cons_cons _ (List.nil_sublist _))))), (fun f hf => List.mem_append_left _ hf), ?_⟩)
        refine LO_v rfl rfl rfl rfl (V_assign rfl rfl) ?_
        refine LO_nil ?_
        refine ⟨(), ⟨rfl, rfl, rfl, rfl, rfl, rfl, rfl, rfl, rfl, rfl, trivial⟩, (List.Sublist.cons_cons _ (List.Sublist.cons_cons _ (List.Sublist.cons_cons _ (List.nil_sublist _)))), fun f hf => ?_, rfl⟩
        have hf : f ∈ [svF S3 s3 u3, svF S4 s4 u4, svF S6 s6 u6] := hf
        show f ∈ [svF S3 s3 u3, svF S4 s4 u4, svF S6 s6 u6] ++ [svF S7 s7 u7]
        simp only [List.mem_append, List.mem_cons, List.not_mem_nil, or_false] at hf ⊢
        grind
      ·
        refine LO_s rfl rfl rfl (S_alloc rfl rfl rfl z30la (fun b3 => ⟨(Pk.of_sub (List.Sublist.cons_cons _ (List.Sublist.cons_cons _ (List.Sublist.cons_cons _ (List.nil_sublist _))))), (fun f hf => hf), ?_⟩))
        refine LO_s rfl rfl rfl (S_call rfl rfl rfl tx9la (fun w1 hw => (fold_f S6 s6 u6 (gR sgN) spN spN spN spN w1 (hw.fa 2 rfl) (.and clA_0 clA_0) (by rw [hv6]; exact sz_of rfl (by kernel_rfl) (by decide) (by decide)) ⟨⟨by decide, by decide⟩, by decide, by decide⟩).mono ?_))
        rintro e w' ⟨S7, s7, u7, he, hfr, hn7, hv7⟩
        rw [hv6] at he hv7
        rw [q7] at he
        subst he
        refine ⟨_, _, _, rfl, hw.newN hfr hn7, rfl, (Pk.of_sub (List.Sublist.cons_cons _ (List.Sublist.cons_cons _ (List.Sublist.cons_cons _ (List.nil_sublist _))))), (fun f hf => List.mem_append_left _ hf), ?_⟩
        refine LO_v rfl rfl rfl rfl (V_move rfl rfl) ?_
        refine LO_v rfl rfl rfl rfl (V_extract rfl rfl rfl) ?_
        refine LO_v rfl rfl rfl rfl (V_extract rfl rfl rfl) ?_
        refine LO_s rfl rfl rfl (S_storeW 3 rfl rfl rfl rfl rfl (szd sz30la (by kernel_rfl)) (all_one (by kernel_rfl)) (by kernel_rfl) ⟨(Pk.of_sub (List.Sublist.cons_cons _ (List.Sublist.cons_cons _ (List.Sublist.cons_cons _ (List.nil_sublist _))))), (fun f hf => List.mem_append_left _ hf), ?_⟩)
        refine LO_v rfl rfl rfl rfl (V_assign rfl rfl) ?_
        refine LO_nil ?_
        refine ⟨(), ⟨rfl, rfl, rfl, rfl, rfl, rfl, rfl, rfl, rfl, rfl, trivial⟩, (List.Sublist.cons_cons _ (List.Sublist.cons_cons _ (List.Sublist.cons_cons _ (List.nil_sublist _)))), fun f hf => ?_, rfl⟩
        have hf : f ∈ [svF S3 s3 u3, svF S4 s4 u4, svF S6 s6 u6] := hf
        show f ∈ [svF S3 s3 u3, svF S4 s4 u4, svF S6 s6 u6] ++ [svF S7 s7 u7]
        simp only [List.mem_append, List.mem_cons, List.not_mem_nil, or_false] at hf ⊢
        grind
    ·
      refine LO_s rfl rfl rfl (S_alloc rfl rfl rfl z30la (fun b3 => ⟨(Pk.of_sub (List.Sublist.cons_cons _ (List.Sublist.cons_cons _ (List.Sublist.cons_cons _ (List.nil_sublist _))))), (fun f hf => hf), ?_⟩))
      refine LO_callV rfl rfl rfl rfl rfl rfl rfl rfl tx34la (fun w1 hw => sign_w w1) (Pk.of_sub (List.Sublist.cons_cons _ (List.Sublist.cons_cons _ (List.Sublist.cons_cons _ (List.nil_sublist _))))) (fun f hf => hf) ?_
      refine LO_s rfl rfl rfl (S_call rfl rfl rfl tx9la (fun w1 hw => (fold_f S6 s6 u6 (gR sgN) spN spN spN spN w1 (hw.fa 2 rfl) (.and clA_0 clA_0) (by rw [hv6]; exact sz_of rfl (by kernel_rfl) (by decide) (by decide)) ⟨⟨by decide, by decide⟩, by decide, by decide⟩).mono ?_))
      rintro e w' ⟨S7, s7, u7, he, hfr, hn7, hv7⟩
      rw [hv6] at he hv7
      rw [q7] at he
      subst he
      refine ⟨_, _, _, rfl, hw.newN hfr hn7, rfl, (Pk.of_sub (List.Sublist.cons_cons _ (List.Sublist.cons_cons _ (List.Sublist.cons_cons _ (List.nil_sublist _))))), (fun f hf => List.mem_append_left _ hf), ?_⟩
      refine LO_v rfl rfl rfl rfl (V_move rfl rfl) ?_
      refine LO_v rfl rfl rfl rfl (V_extract rfl rfl rfl) ?_
      refine LO_v rfl rfl rfl rfl (V_extract rfl rfl rfl) ?_
      refine LO_s rfl rfl rfl (S_storeW 3 rfl rfl rfl rfl rfl (szd sz30la (by kernel_rfl)) (all_one (by kernel_rfl)) (by kernel_rfl) ⟨(Pk.of_sub (List.Sublist.cons_cons _ (List.Sublist.cons_cons _ (List.Sublist.cons_cons _ (List.nil_sublist _))))), (fun f hf => List.mem_append_left _ hf), ?_⟩)
      refine LO_v rfl rfl rfl rfl (V_assign rfl rfl) ?_
      refine LO_nil ?_
      refine ⟨(), ⟨rfl, rfl, rfl, rfl, rfl, rfl, rfl, rfl, rfl, rfl, trivial⟩, (List.Sublist.cons_cons _ (List.Sublist.cons_cons _ (List.Sublist.cons_cons _ (List.nil_sublist _)))), fun f hf => ?_, rfl⟩
      have hf : f ∈ [svF S3 s3 u3, svF S4 s4 u4, svF S6 s6 u6] := hf
      show f ∈ [svF S3 s3 u3, svF S4 s4 u4, svF S6 s6 u6] ++ [svF S7 s7 u7]
      simp only [List.mem_append, List.mem_cons, List.not_mem_nil, or_false] at hf ⊢
      grind
  rintro ⟨⟩
  change J _ _ _ _
  refine J_seq ?_
  have hl3 : S3.es.length = 2 := ent_len hv3
  have hl4 : S4.es.length = 1 := ent_len hv4
  have ht4 : S4.t = 2 := congrArg Sv.term hv4
  have hvv : S4.v = 1 := congrArg Sv.vote hv4
  have hl6 : S6.gl.length = 1 := congrArg (fun s => s.sgs.length) hv6
  refine J_region ?_
  refine L_v rfl rfl rfl (V_move rfl rfl) ?_
  refine L_v rfl rfl rfl (V_eql rfl rfl rfl (by first | exact decide_eq_true (by omega) | exact decide_eq_false (by omega) | rfl)) ?_
  refine L_v rfl rfl rfl (V_move rfl rfl) ?_
  apply L_and 2 59 62
  · rfl
  · rfl
  · rfl
  · rfl
  · rfl
  · rfl
  · rfl
  · kernel_rfl
  · intro hb1 _ _ hk1
    refine L_wv rfl rfl rfl rfl rfl rfl (V_move rfl rfl) ?_
    refine L_wv rfl rfl rfl rfl rfl rfl (V_eql rfl rfl rfl (by first | exact decide_eq_true (by omega) | exact decide_eq_false (by omega) | rfl)) ?_
    exact hk1 _ ⟨rfl, rfl, rfl, rfl, ext_cut 2 (by kernel_rfl) (by kernel_rfl)⟩
  refine L_v rfl rfl rfl (V_move rfl rfl) ?_
  apply L_and 2 63 66
  · rfl
  · rfl
  · rfl
  · rfl
  · rfl
  · rfl
  · rfl
  · kernel_rfl
  · intro hb2 _ _ hk2
    refine L_wv rfl rfl rfl rfl rfl rfl (V_move rfl rfl) ?_
    refine L_wv rfl rfl rfl rfl rfl rfl (V_eql rfl rfl rfl (by first | exact decide_eq_true (by omega) | exact decide_eq_false (by omega) | rfl)) ?_
    exact hk2 _ ⟨rfl, rfl, rfl, rfl, ext_cut 2 (by kernel_rfl) (by kernel_rfl)⟩
  refine L_v rfl rfl rfl (V_move rfl rfl) ?_
  apply L_and 4 67 72
  · rfl
  · rfl
  · rfl
  · rfl
  · rfl
  · rfl
  · rfl
  · kernel_rfl
  · intro hb3 _ _ hk3
    refine L_wv rfl rfl rfl rfl rfl rfl (V_fieldAddr rfl rfl Try.underlying30 rfl sz27la rfl) ?_
    refine L_wv rfl rfl rfl rfl rfl rfl (V_load1 0 rfl rfl rfl Try.underlying27 rfl (by rfl)) ?_
    refine L_wv rfl rfl rfl rfl rfl rfl (V_len rfl rfl Try.underlying27 rfl) ?_
    refine L_wv rfl rfl rfl rfl rfl rfl (V_eql rfl rfl rfl (by first | exact decide_eq_true (by omega) | exact decide_eq_false (by omega) | rfl)) ?_
    exact hk3 _ ⟨rfl, rfl, rfl, rfl, ext_cut 4 (by kernel_rfl) (by kernel_rfl)⟩
  refine L_v rfl rfl rfl (V_move rfl rfl) ?_
  apply L_and 2 73 76
  · rfl
  · rfl
  · rfl
  · rfl
  · rfl
  · rfl
  · rfl
  · kernel_rfl
  · intro hb4 _ _ hk4
    refine L_wv rfl rfl rfl rfl rfl rfl (V_move rfl rfl) ?_
    refine L_wv rfl rfl rfl rfl rfl rfl (V_eql rfl rfl rfl (by first | exact decide_eq_true (by omega) | exact decide_eq_false (by omega) | rfl)) ?_
    exact hk4 _ ⟨rfl, rfl, rfl, rfl, ext_cut 2 (by kernel_rfl) (by kernel_rfl)⟩
  refine L_v rfl rfl rfl (V_move rfl rfl) ?_
  apply L_and 3 77 81
  · rfl
  · rfl
  · rfl
  · rfl
  · rfl
  · rfl
  · rfl
  · kernel_rfl
  · intro hb5 _ _ hk5
    refine L_wv rfl rfl rfl rfl rfl rfl (V_fieldAddr rfl rfl Try.underlying30 rfl sz3la rfl) ?_
    refine L_wv rfl rfl rfl rfl rfl rfl (V_load1 1 rfl rfl rfl Try.underlying3 rfl (by rfl)) ?_
    refine L_wv rfl rfl rfl rfl rfl rfl (V_eql rfl rfl rfl (by first | exact decide_eq_true (by omega) | exact decide_eq_false (by omega) | rfl)) ?_
    exact hk5 _ ⟨rfl, rfl, rfl, rfl, ext_cut 3 (by kernel_rfl) (by kernel_rfl)⟩
  refine L_v rfl rfl rfl (V_move rfl rfl) ?_
  apply L_and 3 82 86
  · rfl
  · rfl
  · rfl
  · rfl
  · rfl
  · rfl
  · rfl
  · kernel_rfl
  · intro hb6 _ _ hk6
    refine L_wv rfl rfl rfl rfl rfl rfl (V_fieldAddr rfl rfl Try.underlying30 rfl sz3la rfl) ?_
    refine L_wv rfl rfl rfl rfl rfl rfl (V_load1 1 rfl rfl rfl Try.underlying3 rfl (by rfl)) ?_
    refine L_wv rfl rfl rfl rfl rfl rfl (V_eql rfl rfl rfl (by first | exact decide_eq_true (by omega) | exact decide_eq_false (by omega) | rfl)) ?_
    exact hk6 _ ⟨rfl, rfl, rfl, rfl, ext_cut 3 (by kernel_rfl) (by kernel_rfl)⟩
  refine L_v rfl rfl rfl (V_move rfl rfl) ?_
  apply L_and 4 87 92
  · rfl
  · rfl
  · rfl
  · rfl
  · rfl
  · rfl
  · rfl
  · kernel_rfl
  · intro hb7 _ _ hk7
    refine L_wv rfl rfl rfl rfl rfl rfl (V_fieldAddr rfl rfl Try.underlying30 rfl sz27la rfl) ?_
    refine L_wv rfl rfl rfl rfl rfl rfl (V_load1 1 rfl rfl rfl Try.underlying27 rfl (by rfl)) ?_
    refine L_wv rfl rfl rfl rfl rfl rfl (V_len rfl rfl Try.underlying27 rfl) ?_
    refine L_wv rfl rfl rfl rfl rfl rfl (V_eql rfl rfl rfl (by first | exact decide_eq_true (by omega) | exact decide_eq_false (by omega) | rfl)) ?_
    exact hk7 _ ⟨rfl, rfl, rfl, rfl, ext_cut 4 (by kernel_rfl) (by kernel_rfl)⟩
  refine L_v rfl rfl rfl (V_move rfl rfl) ?_
  apply L_and 2 93 96
  · rfl
  · rfl
  · rfl
  · rfl
  · rfl
  · rfl
  · rfl
  · kernel_rfl
  · intro hb8 _ _ hk8
    refine L_wv rfl rfl rfl rfl rfl rfl (V_move rfl rfl) ?_
    refine L_wv rfl rfl rfl rfl rfl rfl (V_eql rfl rfl rfl (by first | exact decide_eq_true (by omega) | exact decide_eq_false (by omega) | rfl)) ?_
    exact hk8 _ ⟨rfl, rfl, rfl, rfl, ext_cut 2 (by kernel_rfl) (by kernel_rfl)⟩
  refine L_v rfl rfl rfl (V_move rfl rfl) ?_
  apply L_and 2 97 100
  · rfl
  · rfl
  · rfl
  · rfl
  · rfl
  · rfl
  · rfl
  · kernel_rfl
  · intro hb9 _ _ hk9
    refine L_wv rfl rfl rfl rfl rfl rfl (V_move rfl rfl) ?_
    refine L_wv rfl rfl rfl rfl rfl rfl (V_eql rfl rfl rfl (by first | exact decide_eq_true (by omega) | exact decide_eq_false (by omega) | rfl)) ?_
    exact hk9 _ ⟨rfl, rfl, rfl, rfl, ext_cut 2 (by kernel_rfl) (by kernel_rfl)⟩
  refine L_v rfl rfl rfl (V_move rfl rfl) ?_
  apply L_and 4 101 106
  · rfl
  · rfl
  · rfl
  · rfl
  · rfl
  · rfl
  · rfl
  · kernel_rfl
  · intro hb10 _ _ hk10
    refine L_wv rfl rfl rfl rfl rfl rfl (V_fieldAddr rfl rfl Try.underlying30 rfl sz28la rfl) ?_
    refine L_wv rfl rfl rfl rfl rfl rfl (V_load1 2 rfl rfl rfl Try.underlying28 rfl (by rfl)) ?_
    refine L_wv rfl rfl rfl rfl rfl rfl (V_len rfl rfl Try.underlying28 rfl) ?_
    refine L_wv rfl rfl rfl rfl rfl rfl (V_eql rfl rfl rfl (by first | exact decide_eq_true (by omega) | exact decide_eq_false (by omega) | rfl)) ?_
    exact hk10 _ ⟨rfl, rfl, rfl, rfl, ext_cut 4 (by kernel_rfl) (by kernel_rfl)⟩
  refine L_v rfl rfl rfl (V_move rfl rfl) ?_
  apply L_and 2 107 110
  · rfl
  · rfl
  · rfl
  · rfl
  · rfl
  · rfl
  · rfl
  · kernel_rfl
  · intro hb11 _ _ hk11
    refine L_wv rfl rfl rfl rfl rfl rfl (V_move rfl rfl) ?_
    refine L_wv rfl rfl rfl rfl rfl rfl (V_eql rfl rfl rfl (by first | exact decide_eq_true (by omega) | exact decide_eq_false (by omega) | rfl)) ?_
    exact hk11 _ ⟨rfl, rfl, rfl, rfl, ext_cut 2 (by kernel_rfl) (by kernel_rfl)⟩
  refine L_v rfl rfl rfl (V_assign rfl rfl) ?_
  refine L_nil ?_
  change J _ _ _ _
  refine J_ret ?_
  change Kret _ _ _ Exit.ret _
  refine ret1 rfl rfl (RV_t rfl) ?_
  exact fun w' h => ⟨rfl, h.fr⟩

end Go.Proofs.Ytcdenfkbhefbbaa
