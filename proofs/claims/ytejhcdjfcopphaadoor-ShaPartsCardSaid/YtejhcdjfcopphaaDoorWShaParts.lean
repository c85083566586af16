/- What the law ShaParts comes to. -/
import Derived.Test.YtejhcdjfcopphaaDoorSha6
import Derived.Test.YtejhcdjfcopphaaDoorKeep
import Derived.Test.YtejhcdjfcopphaaDoorSxRows
set_option linter.unusedVariables false
set_option linter.unusedSimpArgs false
set_option maxRecDepth 100000
namespace Go.Proofs.YtejhcdjfcopphaaDoor
open Go.Sx
theorem egD : Tryd.prog.eqGuardType Tryd.prog.depth 26 = false := by kernel_rfl
abbrev p0 : List Int × Value := ([], .slice none 0 0)
abbrev pcs (ps : List (List Int × Value)) : List Value := ps.flatMap fun p => [p.2]
abbrev bcs (qs : List Bool) : List Value := qs.flatMap fun b => [.bool b]
theorem one_get {α : Type} (f : α → Value) (d : α) : ∀ {l : List α} {i : Nat}, i < l.length → (l.flatMap fun x => [f x])[i]? = some (f (l.getD i d))
  | x :: l, 0, _ => rfl
  | x :: l, i + 1, h => by
    rw [List.flatMap_cons, List.singleton_append, List.getElem?_cons_succ, one_get f d (by simpa using h)]
    rfl
theorem pcs_get {ps : List (List Int × Value)} {i : Nat} {v : Value} (h : i < ps.length) (hv : (ps.getD i p0).2 = v) : (pcs ps)[((i : Nat) : Int).toNat * (0 + 1)]? = some v := by
  rw [Int.toNat_natCast, Nat.mul_one, ← hv]
  exact one_get (fun p : List Int × Value => p.2) p0 h
theorem bcs_get {qs : List Bool} {i : Nat} (h : i < qs.length) : (bcs qs)[((i : Nat) : Int).toNat * (0 + 1)]? = some (.bool (qs.getD i false)) := by
  rw [Int.toNat_natCast, Nat.mul_one]
  exact one_get Value.bool false h
def alP (ps : List (List Int × Value)) (i : Nat) : List Int := (ps.take i).flatMap (·.1)
theorem alP_step {ps : List (List Int × Value)} {i : Nat} (h : i < ps.length) : alP ps (i + 1) = alP ps i ++ (ps.getD i p0).1 := by
  unfold alP
  rw [List.take_add_one, List.getD_eq_getElem?_getD, List.getElem?_eq_getElem h, List.flatMap_append]
  simp
theorem alP_byt {ps : List (List Int × Value)} {W : World} (h : ∀ p ∈ ps, RowB W p) (i : Nat) : Byt (alP ps i) := by
  intro x hx
  obtain ⟨p, hp, hx⟩ := List.mem_flatMap.1 hx
  exact (h p (List.mem_of_mem_take hp)).2.1 x hx
theorem getDm {α : Type} {l : List α} {i : Nat} {d : α} (h : i < l.length) : l.getD i d ∈ l := by
  rw [List.getD_eq_getElem?_getD, List.getElem?_eq_getElem h]
  exact List.getElem_mem h
theorem SlB_form {w : World} {v : Value} {l : List Int} (h : SlB w v l) : ∃ a c, v = .slice a l.length c := by
  rcases h with ⟨rfl, a, c, e⟩ | ⟨b, off, c, e, _⟩
  · exact ⟨_, _, e⟩
  · exact ⟨_, _, e⟩
theorem pk_swap {α : Type} {x y : α} {A : List α} : List.Perm ((x :: A) ++ [y]) (x :: y :: A) := List.Perm.cons _ (List.perm_append_comm (l₁ := A) (l₂ := [y]))
theorem sz4sp : (Tryd.prog.info? 4).map (·.size) = some 1 := by kernel_rfl
theorem sz5sp : (Tryd.prog.info? 5).map (·.size) = some 1 := by kernel_rfl
theorem sz22sp : (Tryd.prog.info? 22).map (·.size) = some 1 := by kernel_rfl
theorem tx8sp : Txt Tryd.prog 8 := txt_of Tryd.func8 rfl (by kernel_rfl)
theorem tx9sp : Txt Tryd.prog 9 := txt_of Tryd.func9 rfl (by kernel_rfl)
theorem tx10sp : Txt Tryd.prog 10 := txt_of Tryd.func10 rfl (by kernel_rfl)
theorem tx11sp : Txt Tryd.prog 11 := txt_of Tryd.func11 rfl (by kernel_rfl)
theorem tx12sp : Txt Tryd.prog 12 := txt_of Tryd.func12 rfl (by kernel_rfl)
theorem tx14sp : Txt Tryd.prog 14 := txt_of Tryd.func14 rfl (by kernel_rfl)
theorem tx15sp : Txt Tryd.prog 15 := txt_of Tryd.func15 rfl (by kernel_rfl)
theorem tx16sp : Txt Tryd.prog 16 := txt_of Tryd.func16 rfl (by kernel_rfl)
theorem tx17sp : Txt Tryd.prog 17 := txt_of Tryd.func17 rfl (by kernel_rfl)
theorem tx18sp : Txt Tryd.prog 18 := txt_of Tryd.func18 rfl (by kernel_rfl)

set_option maxHeartbeats 4000000 in
theorem ShaParts_in (a : Option Addr) (n c : Nat) (ps : List (List Int × Value)) (a2 : Option Addr) (n2 c2 : Nat) (qs : List Bool) (w : World) (hl : ps.length = n) (hl2 : qs.length = n2) (hu : SlC 1 w (.slice a n c) n (pcs ps)) (hu2 : SlC 1 w (.slice a2 n2 c2) n2 (bcs qs)) (hp : ∀ p ∈ ps, RowB w p) (hK : TabK KT 1 w) (hR : TabK KT 0 w)  :
    Calls Tryd.prog 6 #[.slice a n c, .slice a2 n2 c2] w fun e w' => e = .returned (.bool true) ∧ Fr [] w w' := by
  refine calls_of (args := [.slice a n c, .slice a2 n2 c2]) ([]) ([]) ([]) Tryd.func6 rfl rfl (okW0 _ _ _ _) ?_
  refine J_seq ?_
  refine J_region ?_
  refine L_v rfl rfl rfl (V_assign rfl rfl) ?_
  refine L_nil ?_
  change J _ _ _ _
  refine J_seq ?_
  refine J_seq ?_
  refine J_region ?_
  refine L_v rfl rfl rfl (V_move rfl rfl) ?_
  refine L_v rfl rfl rfl (V_len rfl rfl Tryd.underlying36 rfl) ?_
  refine L_v rfl rfl rfl (V_gtr rfl rfl rfl (by first | exact decide_eq_false (fun h => h rfl) | exact decide_eq_true (by omega) | exact decide_eq_false (by omega) | rfl)) ?_
  refine L_nil ?_
  change J _ _ _ _
  refine J_cond rfl (fun h1 => ?_) (fun h1 => ?_)
  ·
    first | (have h1 := h1; rw [decide_eq_true_eq] at h1) | (have h1 := h1; rw [decide_eq_false_iff_not] at h1) | skip
    refine J_seq ?_
    refine J_region ?_
    refine L_v rfl rfl rfl (V_assign rfl rfl) ?_
    refine L_nil ?_
    change J _ _ _ _
    refine J_ret ?_
    change Kret _ _ _ Exit.ret _
    refine ret1 rfl rfl (RV_t rfl) ?_
    exact fun w' h => ⟨rfl, h.fr⟩
  ·
    first | (have h1 := h1; rw [decide_eq_true_eq] at h1) | (have h1 := h1; rw [decide_eq_false_iff_not] at h1) | skip
    refine J_skip ?_
    change J _ _ _ _
    refine J_seq ?_
    refine J_region ?_
    refine L_call rfl rfl rfl rfl tx14sp (fun w1 hw => (hnew_w w1).mono ?_)
    rintro e w' ⟨b0, rfl, hfr0, hsz0, hb0⟩
    refine ⟨_, _, _, rfl, hw.add hfr0 hb0 hsz0, rfl, ?_⟩
    refine L_v rfl rfl rfl (V_assign rfl rfl) ?_
    refine L_nil ?_
    change J _ _ _ _
    refine J_seq ?_
    refine J_seq ?_
    refine J_region ?_
    refine L_v rfl rfl rfl (V_move rfl rfl) ?_
    refine L_v rfl rfl rfl (V_eqP rfl rfl rfl Tryd.underlying31 rfl) ?_
    refine L_nil ?_
    change J _ _ _ _
    refine J_false rfl ?_
    refine J_skip ?_
    change J _ _ _ _
    refine J_seq ?_
    refine J_region ?_
    refine L_v rfl rfl rfl (V_assign rfl rfl) ?_
    refine L_nil ?_
    change J _ _ _ _
    refine J_seq ?_
    refine J_seq ?_
    refine J_region ?_
    refine L_v rfl rfl rfl (V_assign rfl rfl) ?_
    refine L_nil ?_
    change J _ _ _ _
    refine J_block ?_
    refine J_loop (X := Nat × R8 × List Int × OwnR) (fun x => { env := [(0, .slice a n c), (1, .slice a2 n2 c2), (5, .pointer (some ⟨b0, 0, none⟩)), (6, ownV x.2.2.2 (alP ps x.1).length), (7, .int .i64 (x.1 : Int))], mem := (b0, row 48 (hL x.2.1.l x.2.2.1 ((alP ps x.1).length : Int))) :: ownM 5 x.2.2.2 (dg (alP ps x.1)) }) (fun x => x.1 ≤ n ∧ OwnC 1 x.2.2.2 (alP ps x.1).length (dg (alP ps x.1)) ∧ HS (alP ps x.1) x.2.1 x.2.2.1 ∧ (alP ps x.1).length ≤ 131072) (fun x => n - x.1) (0, R0, List.replicate 64 0, none) ⟨Nat.zero_le _, ⟨rfl, rfl⟩, hs0, Nat.zero_le _⟩ ⟨⟨rfl, rfl, rfl, rfl, rfl, trivial⟩, List.Sublist.refl _, fun f hf => hf, rfl⟩ ?_
    rintro ⟨i, ws, bl, q⟩ ⟨hin, hq, hs, hA⟩
    simp only at hin hq hs hA ⊢
    refine J_seq ?_
    refine J_seq ?_
    refine J_region ?_
    refine L_v rfl rfl rfl (V_move rfl rfl) ?_
    refine L_v rfl rfl rfl (V_move rfl rfl) ?_
    refine L_v rfl rfl rfl (V_len rfl rfl Tryd.underlying36 rfl) ?_
    refine L_v rfl rfl rfl (V_lss rfl rfl rfl (by first | exact decide_eq_false (fun h => h rfl) | exact decide_eq_true (by omega) | exact decide_eq_false (by omega) | rfl)) ?_
    refine L_nil ?_
    change J _ _ _ _
    refine J_cond rfl (fun h2 => ?_) (fun h2 => ?_)
    ·
      first | (have h2 := h2; rw [decide_eq_true_eq] at h2) | (have h2 := h2; rw [decide_eq_false_iff_not] at h2) | skip
      have hi : i < ps.length := by omega
      have hpr := hp _ (getDm (d := p0) hi)
      obtain ⟨pa, pc, hpf⟩ := SlB_form hpr.1
      have hpc := hpr.2.2 _ _ _ hpf
      have hpS : SlB w (.slice pa (ps.getD i p0).1.length pc) (ps.getD i p0).1 := hpf ▸ hpr.1
      refine J_skip ?_
      change J _ _ _ _
      refine J_seq ?_
      refine J_block ?_
      refine J_seq ?_
      refine J_seq ?_
      refine J_region ?_
      refine L_v rfl rfl rfl (V_move rfl rfl) ?_
      refine L_v rfl rfl rfl (V_move rfl rfl) ?_
      refine L_v rfl rfl rfl (V_indexC rfl rfl rfl Tryd.underlying36 sz22sp (fun w hw => SlC.later hw rfl hu) (by omega) (by omega)) ?_
      refine L_v rfl rfl rfl (V_loadC rfl rfl Tryd.underlying22 rfl (fun w hw => SlC.later hw rfl hu) (pcs_get hi hpf)) ?_
      refine L_v rfl rfl rfl (V_len rfl rfl Tryd.underlying22 rfl) ?_
      refine L_v rfl rfl rfl (V_move rfl rfl) ?_
      refine L_v rfl rfl rfl (V_len rfl rfl Tryd.underlying22 rfl) ?_
      refine L_v rfl rfl rfl (V_sub rfl rfl rfl (by first | exact Go.IntWalk.i64_in _ (by omega) | rfl)) ?_
      refine L_v rfl rfl rfl (V_gtr rfl rfl rfl (by first | exact decide_eq_false (fun h => h rfl) | exact decide_eq_true (by omega) | exact decide_eq_false (by omega) | rfl)) ?_
      refine L_nil ?_
      change J _ _ _ _
      refine J_cond rfl (fun h3 => ?_) (fun h3 => ?_)
      ·
        first | (have h3 := h3; rw [decide_eq_true_eq] at h3) | (have h3 := h3; rw [decide_eq_false_iff_not] at h3) | skip
        refine J_seq ?_
        refine J_region ?_
        refine L_v rfl rfl rfl (V_assign rfl rfl) ?_
        refine L_nil ?_
        change J _ _ _ _
        refine J_ret ?_
        change Kret _ _ _ Exit.ret _
        refine ret1 rfl rfl (RV_t rfl) ?_
        exact fun w' h => ⟨rfl, h.fr⟩
      ·
        first | (have h3 := h3; rw [decide_eq_true_eq] at h3) | (have h3 := h3; rw [decide_eq_false_iff_not] at h3) | skip
        refine J_skip ?_
        change J _ _ _ _
        refine J_seq ?_
        refine J_region ?_
        refine L_v rfl rfl rfl (V_move rfl rfl) ?_
        refine L_v rfl rfl rfl (V_move rfl rfl) ?_
        refine L_v rfl rfl rfl (V_indexC rfl rfl rfl Tryd.underlying36 sz22sp (fun w hw => SlC.later hw rfl hu) (by omega) (by omega)) ?_
        refine L_v rfl rfl rfl (V_loadC rfl rfl Tryd.underlying22 rfl (fun w hw => SlC.later hw rfl hu) (pcs_get hi hpf)) ?_
        refine L_call rfl rfl rfl rfl tx8sp (fun w1 hw => (lent_w pa (ps.getD i p0).1.length pc (ps.getD i p0).1 w1 (SlB.later hw rfl hpS) (by omega)).mono ?_)
        rintro e w' ⟨b8, r8, c8, rfl, hn8, hc8, hr8⟩
        refine ⟨_, _, _, rfl, hn8.okW hw, rfl, ?_⟩
        refine L_v rfl rfl rfl (V_assign rfl rfl) ?_
        refine L_nil ?_
        change J _ _ _ _
        refine J_seq ?_
        refine J_seq ?_
        refine J_pk ((b0, row 48 (hL ws.l bl ((alP ps i).length : Int))) :: (b8, row 5 ((dg (ps.getD i p0).1 ++ (dg (List.replicate 8 165) ++ r8)))) :: ownM 5 q (dg (alP ps i))) (Pk.of_perm pk_swap (List.Sublist.refl _)) ?_
        refine J_region ?_
        refine L_v rfl rfl rfl (V_move rfl rfl) ?_
        refine L_v rfl rfl rfl (V_move rfl rfl) ?_
        refine L_call rfl rfl rfl rfl tx15sp (fun w1 hw => (write_w b0 ws bl (alP ps i) (ps.getD i p0).1 (some ⟨b8, 0, none⟩) (ps.getD i p0).1.length c8 w1 (hw.at (i := 0) rfl) hs (SlB.of_own hw (i := 1) (l := (ps.getD i p0).1) (r := dg (List.replicate 8 165) ++ r8) rfl rfl c8) (ap_own hw (i := 0) (j := 1) rfl rfl (by decide)) hpr.2.1 (by omega) (TabK.later hw (by simp) hK) fun e => by have h1 : w.heap.size ≤ b0 := hw.ge rfl (i := 0) rfl; have h2 := hK.lt; omega (by omega)).mono ?_)
        rintro e w' ⟨ws2, bl2, rfl, hfr2, hb2, hs2⟩
        refine ⟨_, _, _, rfl, hw.set (i := 0) rfl hfr2 hb2, rfl, ?_⟩
        refine L_v rfl rfl rfl (V_neq rfl rfl rfl (by first | exact decide_eq_false (fun h => h rfl) | exact decide_eq_true (by omega) | exact decide_eq_false (by omega) | rfl)) ?_
        refine L_v rfl rfl rfl (V_move rfl rfl) ?_
        refine L_wv rfl rfl rfl rfl rfl rfl (V_move rfl rfl) ?_
        refine L_wv rfl rfl rfl rfl rfl rfl (V_move rfl rfl) ?_
        refine L_wv rfl rfl rfl rfl rfl rfl (V_move rfl rfl) ?_
        refine L_wv rfl rfl rfl rfl rfl rfl (V_indexC rfl rfl rfl Tryd.underlying36 sz22sp (fun w hw => SlC.later hw rfl hu) (by omega) (by omega)) ?_
        refine L_wv rfl rfl rfl rfl rfl rfl (V_loadC rfl rfl Tryd.underlying22 rfl (fun w hw => SlC.later hw rfl hu) (pcs_get hi hpf)) ?_
        refine L_wcallV rfl rfl rfl rfl rfl rfl rfl rfl rfl tx12sp (fun w1 hw => kept_w (some ⟨b8, 0, none⟩) (ps.getD i p0).1.length c8 (ps.getD i p0).1 pa pc w1 (SlB.of_own hw (i := 1) (l := (ps.getD i p0).1) (r := dg (List.replicate 8 165) ++ r8) rfl rfl c8) (SlB.of_own hw (i := 1) (l := (ps.getD i p0).1 ++ List.replicate 8 165) (r := r8) (by show some _ = some _; rw [dg_append, List.append_assoc]) (by rw [List.length_append]; rfl) c8) (SlB.later hw rfl hpS) (by omega) (by omega)) ?_
        refine L_wv rfl rfl rfl rfl rfl rfl (V_not rfl rfl rfl) ?_
        first | refine L_v rfl rfl rfl (V_pickT rfl rfl rfl) ?_ | refine L_v rfl rfl rfl (V_pickF rfl rfl rfl) ?_
        refine L_nil ?_
        change J _ _ _ _
        refine J_false rfl ?_
        refine J_skip ?_
        change J _ _ _ _
        refine J_seq ?_
        refine J_seq ?_
        refine J_region ?_
        refine L_v rfl rfl rfl (V_assign rfl rfl) ?_
        refine L_nil ?_
        change J _ _ _ _
        refine J_block ?_
        refine J_loop (X := Nat × List Value) (fun x => { env := [(0, .slice a n c), (1, .slice a2 n2 c2), (5, .pointer (some ⟨b0, 0, none⟩)), (6, ownV q (alP ps i).length), (7, .int .i64 (i : Int)), (8, .slice (some ⟨b8, 0, none⟩) (ps.getD i p0).1.length c8), (9, .int .i64 (x.1 : Int))], mem := (b0, row 48 (hL ws2.l bl2 (((alP ps i).length + (ps.getD i p0).1.length : Nat) : Int))) :: (b8, row 5 x.2) :: ownM 5 q (dg (alP ps i)) }) (fun x => x.1 ≤ (ps.getD i p0).1.length ∧ (ps.getD i p0).1.length ≤ x.2.length) (fun x => (ps.getD i p0).1.length - x.1) (0, _) ⟨Nat.zero_le _, by show _ ≤ List.length _; rw [List.length_append, dg_length]; omega⟩ ⟨⟨rfl, rfl, rfl, rfl, rfl, rfl, rfl, trivial⟩, List.Sublist.refl _, fun f hf => hf, rfl⟩ ?_
        rintro ⟨k, Z⟩ ⟨hk, hZ⟩
        simp only at hk hZ ⊢
        refine J_seq ?_
        refine J_seq ?_
        refine J_region ?_
        refine L_v rfl rfl rfl (V_move rfl rfl) ?_
        refine L_v rfl rfl rfl (V_move rfl rfl) ?_
        refine L_v rfl rfl rfl (V_len rfl rfl Tryd.underlying22 rfl) ?_
        refine L_v rfl rfl rfl (V_lss rfl rfl rfl (by first | exact decide_eq_false (fun h => h rfl) | exact decide_eq_true (by omega) | exact decide_eq_false (by omega) | rfl)) ?_
        refine L_nil ?_
        change J _ _ _ _
        refine J_cond rfl (fun h4 => ?_) (fun h4 => ?_)
        ·
          first | (have h4 := h4; rw [decide_eq_true_eq] at h4) | (have h4 := h4; rw [decide_eq_false_iff_not] at h4) | skip
          refine J_skip ?_
          change J _ _ _ _
          refine J_seq ?_
          refine J_block ?_
          refine J_region ?_
          refine L_v rfl rfl rfl (V_move rfl rfl) ?_
          refine L_v rfl rfl rfl (V_move rfl rfl) ?_
          refine L_v rfl rfl rfl (V_indexSl rfl rfl rfl Tryd.underlying22 sz5sp (by omega) (by omega) (by first | exact ix0 _ | exact ix1 _ _ | rfl)) ?_
          refine L_store1 1 rfl rfl rfl rfl rfl rfl rfl sz5sp (by first | (rw [Int.toNat_natCast]; omega) | (simp; omega)) rfl ?_
          refine L_nil ?_
          change J _ _ _ _
          refine J_region ?_
          refine L_v rfl rfl rfl (V_move rfl rfl) ?_
          refine L_v rfl rfl rfl (V_add rfl rfl rfl (by first | exact Go.IntWalk.i64_in _ (by omega) | rfl)) ?_
          refine L_v rfl rfl rfl (V_assign rfl rfl) ?_
          refine L_nil ?_
          exact ⟨(k + 1, _), ⟨by show k + 1 ≤ (ps.getD i p0).1.length; omega, by show _ ≤ List.length _; rw [List.length_set]; exact hZ⟩, by show (ps.getD i p0).1.length - (k + 1) < (ps.getD i p0).1.length - k; omega, ⟨rfl, rfl, rfl, rfl, rfl, rfl, rfl, trivial⟩, List.Sublist.refl _, fun f hf => hf, rfl⟩
        ·
          first | (have h4 := h4; rw [decide_eq_true_eq] at h4) | (have h4 := h4; rw [decide_eq_false_iff_not] at h4) | skip
          refine J_exit ?_
          change J _ _ _ _
          refine J_seq ?_
          have hLs : (alP ps i).length + (ps.getD i p0).1.length = (alP ps (i + 1)).length := by rw [alP_step hi, List.length_append]
          refine J_le (st' := { env := [(0, .slice a n c), (1, .slice a2 n2 c2), (5, .pointer (some ⟨b0, 0, none⟩)), (6, ownV q (alP ps i).length), (7, .int .i64 (i : Int))], mem := (b0, row 48 (hL ws2.l bl2 (((alP ps i).length + (ps.getD i p0).1.length : Nat) : Int))) :: ownM 5 q (dg (alP ps i)) }) ⟨⟨rfl, rfl, rfl, rfl, rfl, trivial⟩, List.Sublist.cons_cons _ (List.Sublist.cons _ (List.Sublist.refl _)), fun f hf => hf, rfl⟩ ?_
          refine J_region ?_
          refine L_v rfl rfl rfl (V_move rfl rfl) ?_
          refine L_v rfl rfl rfl (V_move rfl rfl) ?_
          refine L_v rfl rfl rfl (V_move rfl rfl) ?_
          refine L_v rfl rfl rfl (V_indexC rfl rfl rfl Tryd.underlying36 sz22sp (fun w hw => SlC.later hw rfl hu) (by omega) (by omega)) ?_
          refine L_v rfl rfl rfl (V_loadC rfl rfl Tryd.underlying22 rfl (fun w hw => SlC.later hw rfl hu) (pcs_get hi hpf)) ?_
          refine L_appL [(b0, row 48 (hL ws2.l bl2 (((alP ps i).length + (ps.getD i p0).1.length : Nat) : Int)))] q (dg (alP ps i)) (n' := (alP ps (i + 1)).length) (ks' := dg (alP ps (i + 1))) rfl rfl rfl rfl rfl Tryd.underlying22 elj rfl hq (fun w hw => src_bytes' Tryd.underlying22 (SlB.later hw rfl hpS) rfl) hLs (by rw [alP_step hi, dg_append]) (by omega) (by omega) (fun q3 hq3 => ?_)
          refine L_v rfl rfl rfl (V_assign rfl rfl) ?_
          refine L_nil ?_
          change J _ _ _ _
          refine J_seq ?_
          refine J_seq ?_
          refine J_region ?_
          refine L_v rfl rfl rfl (V_move rfl rfl) ?_
          refine L_v rfl rfl rfl (V_move rfl rfl) ?_
          refine L_v rfl rfl rfl (V_len rfl rfl Tryd.underlying37 rfl) ?_
          refine L_v rfl rfl rfl (V_lss rfl rfl rfl (by first | exact decide_eq_false (fun h => h rfl) | exact decide_eq_true (by omega) | exact decide_eq_false (by omega) | rfl)) ?_
          refine L_v rfl rfl rfl (V_move rfl rfl) ?_
          refine L_split 68 rfl (fun h5 => ?_) (fun h5 => ?_)
          ·
            first | (have h5 := h5; rw [decide_eq_true_eq] at h5) | (have h5 := h5; rw [decide_eq_false_iff_not] at h5) | skip
            refine L_wv rfl rfl rfl rfl rfl rfl (V_move rfl rfl) ?_
            refine L_wv rfl rfl rfl rfl rfl rfl (V_move rfl rfl) ?_
            refine L_wv rfl rfl rfl rfl rfl rfl (V_indexC rfl rfl rfl Tryd.underlying37 sz4sp (fun w hw => SlC.later hw rfl hu2) (by omega) (by omega)) ?_
            refine L_wv rfl rfl rfl rfl rfl rfl (V_loadC rfl rfl Tryd.underlying4 rfl (fun w hw => SlC.later hw rfl hu2) (bcs_get (by omega))) ?_
            first | refine L_v rfl rfl rfl (V_pickT rfl rfl rfl) ?_ | refine L_v rfl rfl rfl (V_pickF rfl rfl rfl) ?_
            refine L_v rfl rfl rfl (V_move rfl rfl) ?_
            refine L_split 74 rfl (fun h6 => ?_) (fun h6 => ?_)
            ·
              first | (have h6 := h6; rw [decide_eq_true_eq] at h6) | (have h6 := h6; rw [decide_eq_false_iff_not] at h6) | skip
              refine L_wv rfl rfl rfl rfl rfl rfl (V_move rfl rfl) ?_
              refine L_wcallV rfl rfl rfl rfl rfl rfl rfl rfl rfl tx16sp (fun w1 hw => hsum_w b0 ws2 bl2 (alP ps (i + 1)) w1 (by first | exact hw.at (i := 0) rfl | (have h9 := hw.at (i := 0) rfl; rw [hLs] at h9; exact h9)) (alP_step hi ▸ hs2) (TabK.later hw (by simp) hK) (by omega)) ?_
              refine L_wv rfl rfl rfl rfl rfl rfl (V_move rfl rfl) ?_
              refine L_wcallV rfl rfl rfl rfl rfl rfl rfl rfl rfl tx10sp (fun w1 hw => ssum_w (alP ps (i + 1)) (oA q3) (alP ps (i + 1)).length (oC q3) w1 (SlB.ofM hw (fun p hp => by first | exact hp | exact List.mem_cons_of_mem _ hp | exact List.mem_append_right _ hp | exact List.mem_append_left _ hp) hq3 rfl) (alP_byt hp _) hq3.le (TabK.later hw (by simp) hK) (by omega)) ?_
              refine L_wv rfl rfl rfl rfl rfl rfl (V_neD rfl rfl rfl egD Tryd.underlying26 Tryd.underlying5 sz5sp (by first | exact shaP_len _ | rfl) (by first | exact shaP_len _ | rfl) (by first | exact decide_eq_true rfl | exact decide_eq_false (fun h => h rfl))) ?_
              first | refine L_v rfl rfl rfl (V_pickT rfl rfl rfl) ?_ | refine L_v rfl rfl rfl (V_pickF rfl rfl rfl) ?_
              refine L_nil ?_
              change J _ _ _ _
              refine J_false rfl ?_
              refine J_skip ?_
              change J _ _ _ _
              refine J_seq ?_
              refine J_region ?_
              refine L_v rfl rfl rfl (V_move rfl rfl) ?_
              refine L_callV rfl rfl rfl rfl rfl rfl tx17sp (fun w1 hw => hlen_w b0 ws2 bl2 _ w1 (hw.at (i := 0) rfl) hs2.len) ?_
              refine L_v rfl rfl rfl (V_move rfl rfl) ?_
              refine L_v rfl rfl rfl (V_len rfl rfl Tryd.underlying22 rfl) ?_
              refine L_v rfl rfl rfl (V_neq rfl rfl rfl (by first | exact decide_eq_false (fun h => h rfl) | exact decide_eq_true (by omega) | exact decide_eq_false (by omega) | rfl)) ?_
              refine L_nil ?_
              change J _ _ _ _
              refine J_false rfl ?_
              refine J_skip ?_
              change J _ _ _ _
              refine J_region ?_
              refine L_v rfl rfl rfl (V_move rfl rfl) ?_
              refine L_v rfl rfl rfl (V_add rfl rfl rfl (by first | exact Go.IntWalk.i64_in _ (by omega) | rfl)) ?_
              refine L_v rfl rfl rfl (V_assign rfl rfl) ?_
              refine L_nil ?_
              exact ⟨(i + 1, ws2, bl2, q3), ⟨by show i + 1 ≤ n; omega, hq3, alP_step hi ▸ hs2, by show (alP ps (i + 1)).length ≤ 131072; omega⟩, by show n - (i + 1) < n - i; omega, ⟨rfl, rfl, rfl, rfl, rfl, trivial⟩, (by show List.Sublist ((b0, row 48 (hL ws2.l bl2 ((alP ps (i + 1)).length : Int))) :: _) _; rw [← hLs]; exact List.Sublist.refl _), fun f hf => hf, rfl⟩
            ·
              first | (have h6 := h6; rw [decide_eq_true_eq] at h6) | (have h6 := h6; rw [decide_eq_false_iff_not] at h6) | skip
              refine L_skip rfl rfl rfl rfl rfl rfl rfl ?_
              refine L_skip rfl rfl rfl rfl rfl rfl rfl ?_
              refine L_skip rfl rfl rfl rfl rfl rfl rfl ?_
              refine L_skip rfl rfl rfl rfl rfl rfl rfl ?_
              refine L_skip rfl rfl rfl rfl rfl rfl rfl ?_
              first | refine L_v rfl rfl rfl (V_pickT rfl rfl rfl) ?_ | refine L_v rfl rfl rfl (V_pickF rfl rfl rfl) ?_
              refine L_nil ?_
              change J _ _ _ _
              refine J_false rfl ?_
              refine J_skip ?_
              change J _ _ _ _
              refine J_seq ?_
              refine J_region ?_
              refine L_v rfl rfl rfl (V_move rfl rfl) ?_
              refine L_callV rfl rfl rfl rfl rfl rfl tx17sp (fun w1 hw => hlen_w b0 ws2 bl2 _ w1 (hw.at (i := 0) rfl) hs2.len) ?_
              refine L_v rfl rfl rfl (V_move rfl rfl) ?_
              refine L_v rfl rfl rfl (V_len rfl rfl Tryd.underlying22 rfl) ?_
              refine L_v rfl rfl rfl (V_neq rfl rfl rfl (by first | exact decide_eq_false (fun h => h rfl) | exact decide_eq_true (by omega) | exact decide_eq_false (by omega) | rfl)) ?_
              refine L_nil ?_
              change J _ _ _ _
              refine J_false rfl ?_
              refine J_skip ?_
              change J _ _ _ _
              refine J_region ?_
              refine L_v rfl rfl rfl (V_move rfl rfl) ?_
              refine L_v rfl rfl rfl (V_add rfl rfl rfl (by first | exact Go.IntWalk.i64_in _ (by omega) | rfl)) ?_
              refine L_v rfl rfl rfl (V_assign rfl rfl) ?_
              refine L_nil ?_
              exact ⟨(i + 1, ws2, bl2, q3), ⟨by show i + 1 ≤ n; omega, hq3, alP_step hi ▸ hs2, by show (alP ps (i + 1)).length ≤ 131072; omega⟩, by show n - (i + 1) < n - i; omega, ⟨rfl, rfl, rfl, rfl, rfl, trivial⟩, (by show List.Sublist ((b0, row 48 (hL ws2.l bl2 ((alP ps (i + 1)).length : Int))) :: _) _; rw [← hLs]; exact List.Sublist.refl _), fun f hf => hf, rfl⟩
          ·
            first | (have h5 := h5; rw [decide_eq_true_eq] at h5) | (have h5 := h5; rw [decide_eq_false_iff_not] at h5) | skip
            refine L_skip rfl rfl rfl rfl rfl rfl rfl ?_
            refine L_skip rfl rfl rfl rfl rfl rfl rfl ?_
            refine L_skip rfl rfl rfl rfl rfl rfl rfl ?_
            refine L_skip rfl rfl rfl rfl rfl rfl rfl ?_
            first | refine L_v rfl rfl rfl (V_pickT rfl rfl rfl) ?_ | refine L_v rfl rfl rfl (V_pickF rfl rfl rfl) ?_
            refine L_v rfl rfl rfl (V_move rfl rfl) ?_
            refine L_skip rfl rfl rfl rfl rfl rfl rfl ?_
            refine L_skip rfl rfl rfl rfl rfl rfl rfl ?_
            refine L_skip rfl rfl rfl rfl rfl rfl rfl ?_
            refine L_skip rfl rfl rfl rfl rfl rfl rfl ?_
            refine L_skip rfl rfl rfl rfl rfl rfl rfl ?_
            first | refine L_v rfl rfl rfl (V_pickT rfl rfl rfl) ?_ | refine L_v rfl rfl rfl (V_pickF rfl rfl rfl) ?_
            refine L_nil ?_
            change J _ _ _ _
            refine J_false rfl ?_
            refine J_skip ?_
            change J _ _ _ _
            refine J_seq ?_
            refine J_region ?_
            refine L_v rfl rfl rfl (V_move rfl rfl) ?_
            refine L_callV rfl rfl rfl rfl rfl rfl tx17sp (fun w1 hw => hlen_w b0 ws2 bl2 _ w1 (hw.at (i := 0) rfl) hs2.len) ?_
            refine L_v rfl rfl rfl (V_move rfl rfl) ?_
            refine L_v rfl rfl rfl (V_len rfl rfl Tryd.underlying22 rfl) ?_
            refine L_v rfl rfl rfl (V_neq rfl rfl rfl (by first | exact decide_eq_false (fun h => h rfl) | exact decide_eq_true (by omega) | exact decide_eq_false (by omega) | rfl)) ?_
            refine L_nil ?_
            change J _ _ _ _
            refine J_false rfl ?_
            refine J_skip ?_
            change J _ _ _ _
            refine J_region ?_
            refine L_v rfl rfl rfl (V_move rfl rfl) ?_
            refine L_v rfl rfl rfl (V_add rfl rfl rfl (by first | exact Go.IntWalk.i64_in _ (by omega) | rfl)) ?_
            refine L_v rfl rfl rfl (V_assign rfl rfl) ?_
            refine L_nil ?_
            exact ⟨(i + 1, ws2, bl2, q3), ⟨by show i + 1 ≤ n; omega, hq3, alP_step hi ▸ hs2, by show (alP ps (i + 1)).length ≤ 131072; omega⟩, by show n - (i + 1) < n - i; omega, ⟨rfl, rfl, rfl, rfl, rfl, trivial⟩, (by show List.Sublist ((b0, row 48 (hL ws2.l bl2 ((alP ps (i + 1)).length : Int))) :: _) _; rw [← hLs]; exact List.Sublist.refl _), fun f hf => hf, rfl⟩
    ·
      first | (have h2 := h2; rw [decide_eq_true_eq] at h2) | (have h2 := h2; rw [decide_eq_false_iff_not] at h2) | skip
      refine J_exit ?_
      change J _ _ _ _
      refine J_seq ?_
      refine J_region ?_
      refine L_callV rfl rfl rfl rfl rfl rfl tx9sp (fun w1 hw => sums_w w1 (TabK.later hw (by simp) hK)) ?_
      refine L_v rfl rfl rfl (V_move rfl rfl) ?_
      refine L_wcallV rfl rfl rfl rfl rfl rfl rfl rfl rfl tx18sp (fun w1 hw => writes_w w1 (TabK.later hw (by simp) hK)) ?_
      first | refine L_v rfl rfl rfl (V_pickT rfl rfl rfl) ?_ | refine L_v rfl rfl rfl (V_pickF rfl rfl rfl) ?_
      refine L_v rfl rfl rfl (V_move rfl rfl) ?_
      refine L_wv rfl rfl rfl rfl rfl rfl (V_move rfl rfl) ?_
      refine L_wcallV rfl rfl rfl rfl rfl rfl rfl rfl rfl tx16sp (fun w1 hw => hsum_w b0 ws bl (alP ps i) w1 (hw.at (i := 0) rfl) hs (TabK.later hw (by simp) hK) (by omega)) ?_
      refine L_wv rfl rfl rfl rfl rfl rfl (V_move rfl rfl) ?_
      refine L_wcallV rfl rfl rfl rfl rfl rfl rfl rfl rfl tx10sp (fun w1 hw => ssum_w (alP ps i) (oA q) (alP ps i).length (oC q) w1 (SlB.ofM hw (fun p hp => by first | exact hp | exact List.mem_cons_of_mem _ hp | exact List.mem_append_right _ hp | exact List.mem_append_left _ hp) hq rfl) (alP_byt hp _) hq.le (TabK.later hw (by simp) hK) (by omega)) ?_
      refine L_wv rfl rfl rfl rfl rfl rfl (V_eqD rfl rfl rfl egD Tryd.underlying26 Tryd.underlying5 sz5sp (by first | exact shaP_len _ | rfl) (by first | exact shaP_len _ | rfl) (by first | exact decide_eq_true rfl | exact decide_eq_false (fun h => h rfl))) ?_
      first | refine L_v rfl rfl rfl (V_pickT rfl rfl rfl) ?_ | refine L_v rfl rfl rfl (V_pickF rfl rfl rfl) ?_
      refine L_v rfl rfl rfl (V_move rfl rfl) ?_
      refine L_wv rfl rfl rfl rfl rfl rfl (V_move rfl rfl) ?_
      refine L_wcallV rfl rfl rfl rfl rfl rfl rfl rfl rfl tx16sp (fun w1 hw => hsum_w b0 ws bl (alP ps i) w1 (hw.at (i := 0) rfl) hs (TabK.later hw (by simp) hK) (by omega)) ?_
      refine L_wv rfl rfl rfl rfl rfl rfl (V_move rfl rfl) ?_
      refine L_wcallV rfl rfl rfl rfl rfl rfl rfl rfl rfl tx11sp (fun w1 hw => rsum_w (alP ps i) (oA q) (alP ps i).length (oC q) w1 (SlB.ofM hw (fun p hp => by first | exact hp | exact List.mem_cons_of_mem _ hp | exact List.mem_append_right _ hp | exact List.mem_append_left _ hp) hq rfl) (alP_byt hp _) (TabK.later hw (by simp) hR) (by omega)) ?_
      refine L_wv rfl rfl rfl rfl rfl rfl (V_eqD rfl rfl rfl egD Tryd.underlying26 Tryd.underlying5 sz5sp (by first | exact shaP_len _ | rfl) (by first | exact shaP_len _ | rfl) (by first | exact decide_eq_true rfl | exact decide_eq_false (fun h => h rfl))) ?_
      first | refine L_v rfl rfl rfl (V_pickT rfl rfl rfl) ?_ | refine L_v rfl rfl rfl (V_pickF rfl rfl rfl) ?_
      refine L_v rfl rfl rfl (V_assign rfl rfl) ?_
      refine L_nil ?_
      change J _ _ _ _
      refine J_ret ?_
      change Kret _ _ _ Exit.ret _
      refine ret1 rfl rfl (RV_t rfl) ?_
      exact fun w' h => ⟨rfl, h.fr⟩

theorem ShaParts_w (u : Value) (n : Nat) (ps : List (List Int × Value)) (u2 : Value) (n2 : Nat) (qs : List Bool) (w : World) (hl : ps.length = n) (hl2 : qs.length = n2) (hv : SlC 1 w u n (pcs ps)) (hv2 : SlC 1 w u2 n2 (bcs qs)) (hp : ∀ p ∈ ps, RowB w p) (hK : TabK KT 1 w) (hR : TabK KT 0 w)  :
    Calls Tryd.prog 6 #[u, u2] w fun e w' => e = .returned (.bool true) ∧ Fr [] w w' := by
  obtain ⟨a, c, rfl⟩ := hv.form
  obtain ⟨a2, c2, rfl⟩ := hv2.form
  exact ShaParts_in a n c ps a2 n2 c2 qs w hl hl2 hv hv2 hp hK hR
end Go.Proofs.YtejhcdjfcopphaaDoor
