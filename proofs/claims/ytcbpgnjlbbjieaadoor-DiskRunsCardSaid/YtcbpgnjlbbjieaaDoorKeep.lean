/- What the functions of layer 1 that put bytes come to. -/
import Derived.Test.YtcbpgnjlbbjieaaDoorSx
import Derived.Test.YtcbpgnjlbbjieaaDoorOctetPure
import Derived.Test.YtcbpgnjlbbjieaaDoorProg
set_option linter.unusedVariables false
set_option linter.unusedSimpArgs false
set_option maxRecDepth 100000
namespace Go.Proofs.YtcbpgnjlbbjieaaDoor
open Go.Sx
theorem el : ElemOf Tryd.prog 5 1 1 (.int .u8 0) := elem_of (by kernel_rfl) rfl
theorem sz5g : (Tryd.prog.info? 5).map (·.size) = some 1 := by kernel_rfl
theorem bz5g : (Tryd.prog.info? 5).map (fun i => (i.zero, i.size)) = some (some (.int .u8 0), 1) := by kernel_rfl

theorem lent_w (a : Option Addr) (n c : Nat) (l : List Int) (w : World) (hu : SlB w (.slice a n c) l) (hn : n ≤ 1048576) :
    Calls Tryd.prog 39 #[.slice a n c] w fun e w' => ∃ g r cc, e = .returned (.slice (some ⟨g, 0, none⟩) n cc) ∧ NewB 5 w w' g l (dg (List.replicate 8 165) ++ r) ∧ n + 8 ≤ cc ∧ r.length = cc - (n + 8) := by
  have hl := hu.size
  refine calls_of (args := [.slice a n c]) ([]) ([]) ([]) Tryd.func39 rfl rfl (okW0 _ _ _ _) ?_
  refine J_seq ?_
  refine J_region ?_
  refine L_v rfl rfl rfl (V_assign rfl rfl) ?_
  refine L_nil ?_
  change J _ _ _ _
  refine J_seq ?_
  refine J_region ?_
  refine L_v rfl rfl rfl (V_assign rfl rfl) ?_
  refine L_nil ?_
  change J _ _ _ _
  refine J_seq ?_
  refine J_region ?_
  refine L_v rfl rfl rfl (V_move rfl rfl) ?_
  refine L_v rfl rfl rfl (V_move rfl rfl) ?_
  refine L_appL [] none [] (n' := n) (ks' := dg l) rfl rfl rfl rfl rfl Tryd.underlying22 el rfl ⟨rfl, rfl⟩ (fun w hw => src_bytes' Tryd.underlying22 (SlB.later hw rfl hu) hl) (Nat.zero_add n) (List.nil_append _) (by omega) (by omega) (fun q hq => ?_)
  refine L_v rfl rfl rfl (V_assign rfl rfl) ?_
  refine L_nil ?_
  change J _ _ _ _
  refine J_seq ?_
  refine J_seq ?_
  refine J_region ?_
  refine L_v rfl rfl rfl (V_assign rfl rfl) ?_
  refine L_nil ?_
  change J _ _ _ _
  refine J_block ?_
  refine J_loop (X := Nat × OwnR) (fun x => { env := [(0, .slice a n c), (3, ownV x.2 (n + x.1)), (4, .int .i64 (x.1 : Int))], mem := ownM 5 x.2 (dg (l ++ List.replicate x.1 165)) }) (fun x => x.1 ≤ 8 ∧ OwnC 1 x.2 (n + x.1) (dg (l ++ List.replicate x.1 165))) (fun x => 8 - x.1) (0, q) ⟨by simp, by simpa using hq⟩ ⟨⟨rfl, rfl, rfl, trivial⟩, (by simp only [List.replicate_zero, List.append_nil]; exact List.Sublist.refl _), fun f hf => hf, rfl⟩ ?_
  rintro ⟨k, q⟩ ⟨hk, hq⟩
  simp only at hk hq ⊢
  refine J_seq ?_
  refine J_seq ?_
  refine J_region ?_
  refine L_v rfl rfl rfl (V_move rfl rfl) ?_
  refine L_v rfl rfl rfl (V_lss rfl rfl rfl (by first | exact decide_eq_true (by omega) | exact decide_eq_false (by omega) | rfl)) ?_
  refine L_nil ?_
  change J _ _ _ _
  refine J_cond rfl (fun h1 => ?_) (fun h1 => ?_)
  ·
    first | (have h1 := of_decide_eq_true h1) | (have h1 := of_decide_eq_false h1) | skip
    refine J_skip ?_
    change J _ _ _ _
    refine J_seq ?_
    refine J_block ?_
    refine J_region ?_
    refine L_v rfl rfl rfl (V_move rfl rfl) ?_
    refine L_bs1 rfl rfl rfl rfl rfl Tryd.underlying22 bz5g rfl rfl (fun b0 => ?_)
    refine L_appN [] [(b0, row 5 [.int .u8 165])] q (dg (l ++ List.replicate k 165)) (n' := n + (k + 1)) (ks' := dg (l ++ List.replicate (k + 1) 165)) rfl rfl rfl rfl rfl Tryd.underlying22 el rfl hq (fun w hw => src_bytes' Tryd.underlying22 (SlB.in hw (l := [165]) (r := []) (fz := (0, 0)) (List.mem_append_right _ (List.mem_singleton.2 rfl)) rfl 1) rfl) (Nat.add_assoc n k 1) (by rw [List.replicate_succ', ← List.append_assoc, dg_append (l ++ _)]) (by omega) (by omega) (fun q' hq' => ?_)
    refine L_v rfl rfl rfl (V_assign rfl rfl) ?_
    refine L_nil ?_
    change J _ _ _ _
    refine J_region ?_
    refine L_v rfl rfl rfl (V_move rfl rfl) ?_
    refine L_v rfl rfl rfl (V_add rfl rfl rfl (by first | exact Go.IntWalk.i64_in _ (by omega) | rfl)) ?_
    refine L_v rfl rfl rfl (V_assign rfl rfl) ?_
    refine L_nil ?_
    exact ⟨(k + 1, q'), ⟨by show k + 1 ≤ 8; omega, hq'⟩, by show 8 - (k + 1) < 8 - k; omega, ⟨rfl, rfl, rfl, trivial⟩, List.sublist_append_left _ _, fun f hf => hf, rfl⟩
  ·
    first | (have h1 := of_decide_eq_true h1) | (have h1 := of_decide_eq_false h1) | skip
    obtain rfl : k = 8 := by omega
    obtain ⟨g, cc, r, rfl⟩ : ∃ g cc r, q = some (g, cc, r) := by
      cases q with
      | none => exact absurd hq.1 (by omega)
      | some q => exact ⟨q.1, q.2.1, q.2.2, rfl⟩
    obtain ⟨h2, h3, h4⟩ := hq
    have h5 : n ≤ oC (some (g, cc, r)) := by show n ≤ cc; omega
    refine J_exit ?_
    change J _ _ _ _
    refine J_seq ?_
    refine J_region ?_
    refine L_v rfl rfl rfl (V_move rfl rfl) ?_
    refine L_v rfl rfl rfl (V_move rfl rfl) ?_
    refine L_v rfl rfl rfl (V_len rfl rfl Tryd.underlying22 rfl) ?_
    refine L_v rfl rfl rfl (V_slice0 rfl rfl Tryd.underlying22 sz5g ⟨_, rfl⟩ rfl rfl (by first | omega | (simp; omega)) (by first | omega | (simp; omega))) ?_
    refine L_v rfl rfl rfl (V_assign rfl rfl) ?_
    refine L_nil ?_
    change J _ _ _ _
    refine J_ret ?_
    change Kret _ _ _ Exit.ret _
    refine ret1 rfl rfl (RV_t rfl) ?_
    exact fun w' h => ⟨g, r, cc, rfl, NewB.of h rfl (i := 0) (by show some _ = some _; rw [dg_append, List.append_assoc]), h3, by simpa using h4⟩

theorem kept_w (a : Option Addr) (n c : Nat) (l : List Int) (a2 : Option Addr) (c2 : Nat) (w : World) (hu : SlB w (.slice a n c) l) (hx : SlB w (.slice a (n + 8) c) (l ++ List.replicate 8 165)) (hb : SlB w (.slice a2 n c2) l) (hn : n ≤ 1048576) (hcn : n + 8 ≤ c) :
    Calls Tryd.prog 40 #[.slice a n c, .slice a2 n c2] w fun e w' => e = .returned (.bool true) ∧ Fr [] w w' := by
  have hl := hu.size
  refine calls_of (args := [.slice a n c, .slice a2 n c2]) ([]) ([]) ([]) Tryd.func40 rfl rfl (okW0 _ _ _ _) ?_
  refine J_seq ?_
  refine J_region ?_
  refine L_v rfl rfl rfl (V_assign rfl rfl) ?_
  refine L_nil ?_
  change J _ _ _ _
  refine J_seq ?_
  refine J_seq ?_
  refine J_region ?_
  refine L_v rfl rfl rfl (V_move rfl rfl) ?_
  refine L_v rfl rfl rfl (V_str rfl rfl Tryd.underlying22 Tryd.underlying5 Tryd.underlying9 (fun w hw => SlB.later hw rfl hu)) ?_
  refine L_v rfl rfl rfl (V_move rfl rfl) ?_
  refine L_v rfl rfl rfl (V_str rfl rfl Tryd.underlying22 Tryd.underlying5 Tryd.underlying9 (fun w hw => SlB.later hw rfl hb)) ?_
  refine L_v rfl rfl rfl (V_neS rfl rfl rfl (decide_eq_false (fun h => h rfl))) ?_
  refine L_nil ?_
  change J _ _ _ _
  refine J_false rfl ?_
  refine J_skip ?_
  change J _ _ _ _
  refine J_seq ?_
  refine J_region ?_
  refine L_v rfl rfl rfl (V_move rfl rfl) ?_
  refine L_v rfl rfl rfl (V_move rfl rfl) ?_
  refine L_v rfl rfl rfl (V_len rfl rfl Tryd.underlying22 rfl) ?_
  refine L_v rfl rfl rfl (V_add rfl rfl rfl (by first | exact Go.IntWalk.i64_in _ (by omega) | rfl)) ?_
  refine L_v rfl rfl rfl (V_slice0 rfl rfl Tryd.underlying22 sz5g (Bd.at (v := n + 8) rfl (by omega)) rfl rfl (by first | omega | (simp; omega)) (by first | omega | (simp; omega))) ?_
  refine L_v rfl rfl rfl (V_assign rfl rfl) ?_
  refine L_nil ?_
  change J _ _ _ _
  refine J_seq ?_
  refine J_seq ?_
  refine J_region ?_
  refine L_v rfl rfl rfl (V_move rfl rfl) ?_
  refine L_v rfl rfl rfl (V_len rfl rfl Tryd.underlying22 rfl) ?_
  refine L_v rfl rfl rfl (V_assign rfl rfl) ?_
  refine L_nil ?_
  change J _ _ _ _
  refine J_block ?_
  refine J_loop (X := Nat) (fun k => { env := [(5, .slice a (n + 8) c), (6, .int .i64 ((n + k : Nat) : Int))] }) (fun k => k ≤ 8) (fun k => 8 - k) 0 (Nat.zero_le _) ⟨⟨rfl, rfl, trivial⟩, List.Sublist.refl _, fun f hf => hf, rfl⟩ ?_
  rintro k hk
  refine J_seq ?_
  refine J_seq ?_
  refine J_region ?_
  refine L_v rfl rfl rfl (V_move rfl rfl) ?_
  refine L_v rfl rfl rfl (V_move rfl rfl) ?_
  refine L_v rfl rfl rfl (V_len rfl rfl Tryd.underlying22 rfl) ?_
  refine L_v rfl rfl rfl (V_lss rfl rfl rfl (by first | exact decide_eq_true (by omega) | exact decide_eq_false (by omega) | rfl)) ?_
  refine L_nil ?_
  change J _ _ _ _
  refine J_cond rfl (fun h1 => ?_) (fun h1 => ?_)
  ·
    first | (have h1 := of_decide_eq_true h1) | (have h1 := of_decide_eq_false h1) | skip
    have h165 : (l ++ List.replicate 8 165).getD ((n + k : Nat) : Int).toNat 0 = 165 := by
      rw [Int.toNat_natCast, getD_app_right (by omega), getD_rep (by omega)]
    refine J_skip ?_
    change J _ _ _ _
    refine J_seq ?_
    refine J_block ?_
    refine J_seq ?_
    refine J_region ?_
    refine L_v rfl rfl rfl (V_move rfl rfl) ?_
    refine L_v rfl rfl rfl (V_move rfl rfl) ?_
    refine L_v rfl rfl rfl (V_indexB rfl rfl rfl Tryd.underlying22 sz5g (fun w hw => SlB.later hw rfl hx) (by omega) (by omega)) ?_
    refine L_v rfl rfl rfl (V_loadB rfl rfl Tryd.underlying5 rfl (fun w hw => SlB.later hw rfl hx) (by omega) rfl) ?_
    refine L_v rfl rfl rfl (V_neq rfl rfl rfl (by first | exact decide_eq_true (by omega) | exact decide_eq_false (by omega) | rfl)) ?_
    refine L_nil ?_
    change J _ _ _ _
    refine J_false rfl ?_
    refine J_skip ?_
    change J _ _ _ _
    refine J_region ?_
    refine L_v rfl rfl rfl (V_move rfl rfl) ?_
    refine L_v rfl rfl rfl (V_add rfl rfl rfl (by first | exact Go.IntWalk.i64_in _ (by omega) | rfl)) ?_
    refine L_v rfl rfl rfl (V_assign rfl rfl) ?_
    refine L_nil ?_
    exact ⟨k + 1, by omega, by omega, ⟨rfl, rfl, trivial⟩, List.Sublist.refl _, fun f hf => hf, rfl⟩
  ·
    first | (have h1 := of_decide_eq_true h1) | (have h1 := of_decide_eq_false h1) | skip
    refine J_exit ?_
    change J _ _ _ _
    refine J_seq ?_
    refine J_region ?_
    refine L_v rfl rfl rfl (V_assign rfl rfl) ?_
    refine L_nil ?_
    change J _ _ _ _
    refine J_ret ?_
    change Kret _ _ _ Exit.ret _
    refine ret1 rfl rfl (RV_t rfl) ?_
    exact fun w' h => ⟨rfl, h.fr⟩

end Go.Proofs.YtcbpgnjlbbjieaaDoor
