/- What the functions of layer 1 that read bytes come to. -/
import Derived.Test.YtfgcfjojpakpjaaGreatOctetPut
set_option linter.unusedVariables false
set_option linter.unusedSimpArgs false
set_option maxRecDepth 100000
namespace Go.Proofs.YtfgcfjojpakpjaaGreat
open Go.Sx
theorem bdRd (a : Option Addr) (n c : Nat) (w : World) : (Instr.build 139 [(0, .slice a n c)].toArray).run Tryz.prog w = .ok (.agg [.slice a n c].toArray) w := by kernel_rfl
theorem take_set {l : List Int} {k : Nat} (h : k < l.length) (h2 : k < 32) : (dg (l.take k ++ zd.drop k)).set k (.int .u8 (l.getD k 0)) = dg (l.take (k + 1) ++ zd.drop (k + 1)) := by
  have hz : zd.drop k = zd.getD k 0 :: zd.drop (k + 1) := by
    have hk : k < zd.length := h2
    rw [List.getD_eq_getElem?_getD, List.getElem?_eq_getElem hk]
    exact List.drop_eq_getElem_cons hk
  rw [dg_set, take_next h, List.append_assoc, List.set_append_right _ _ (by rw [List.length_take]; omega), hz, show k - (l.take k).length = 0 by rw [List.length_take]; omega]
  rfl
theorem bsl0 (w : World) : (Instr.buildSlice 22 3 [(0, .int .u8 172), (1, .int .u8 2), (2, .int .u8 9)].toArray).run Tryz.prog w = .ok (.slice (some ⟨w.heap.size, 0, none⟩) 3 3) (w.alloc (row 5 (dg [172, 2, 9]))) := by kernel_rfl
theorem bsl1 (w : World) : (Instr.buildSlice 22 2 [(0, .int .u8 128), (1, .int .u8 0)].toArray).run Tryz.prog w = .ok (.slice (some ⟨w.heap.size, 0, none⟩) 2 2) (w.alloc (row 5 (dg [128, 0]))) := by kernel_rfl
theorem sz5r : (Tryz.prog.info? 5).map (·.size) = some 1 := by kernel_rfl
theorem sz22r : (Tryz.prog.info? 22).map (·.size) = some 1 := by kernel_rfl
theorem sz25r : (Tryz.prog.info? 25).map (·.size) = some 32 := by kernel_rfl
theorem tx100r : Txt Tryz.prog 100 := txt_of Tryz.func100 rfl (by kernel_rfl)
theorem tx116r : Txt Tryz.prog 116 := txt_of Tryz.func116 rfl (by kernel_rfl)
theorem z25r : (Tryz.prog.info? 25).bind (·.zero) = some (.agg (dg zd).toArray) := by kernel_rfl

theorem new_w (a : Option Addr) (n c : Nat) (w : World) :
    Calls Tryz.prog 58 #[.slice a n c] w fun e w' => ∃ b, e = .returned (.pointer (some ⟨b, 0, none⟩)) ∧ Fr [] w w' ∧ w.heap.size ≤ b ∧ w'.heap[b]? = some (row 139 [.slice a n c]) := by
  refine calls_of (args := [.slice a n c]) ([]) ([]) ([]) Tryz.func58 rfl rfl (okW0 _ _ _ _) ?_
  refine J_seq ?_
  refine J_region ?_
  refine L_v rfl rfl rfl (V_assign rfl rfl) ?_
  refine L_nil ?_
  change J _ _ _ _
  refine J_seq ?_
  refine J_region ?_
  refine L_v rfl rfl rfl (V_move rfl rfl) ?_
  refine L_v rfl rfl rfl (V_build (vs := [(0, .slice a n c)]) rfl rfl (bdRd a n c)) ?_
  refine L_box rfl rfl rfl rfl rfl (fun b0 => ?_)
  refine L_v rfl rfl rfl (V_assign rfl rfl) ?_
  refine L_nil ?_
  change J _ _ _ _
  refine J_ret ?_
  change Kret _ _ _ Exit.ret _
  refine ret1 rfl rfl (RV_t rfl) ?_
  exact fun w' h => ⟨b0, rfl, h.fr, (by simpa using h.may b0 (List.mem_singleton.2 rfl)), h.at (i := 0) rfl⟩

theorem left_w (b : Nat) (a : Option Addr) (n c : Nat) (w : World) (hb : w.heap[b]? = some (row 139 [.slice a n c])) :
    Calls Tryz.prog 60 #[.pointer (some ⟨b, 0, none⟩)] w fun e w' => e = .returned (.int .i64 n) ∧ Fr [] w w' := by
  refine calls_of (args := [.pointer (some ⟨b, 0, none⟩)]) ([]) ([]) ([]) Tryz.func60 rfl rfl (okW0 _ _ _ _) ?_
  refine J_seq ?_
  refine J_region ?_
  refine L_v rfl rfl rfl (V_assign rfl rfl) ?_
  refine L_nil ?_
  change J _ _ _ _
  refine J_seq ?_
  refine J_seq ?_
  refine J_region ?_
  refine L_v rfl rfl rfl (V_move rfl rfl) ?_
  refine L_v rfl rfl rfl (V_eqP rfl rfl rfl Tryz.underlying110 rfl) ?_
  refine L_nil ?_
  change J _ _ _ _
  refine J_false rfl ?_
  refine J_skip ?_
  change J _ _ _ _
  refine J_seq ?_
  refine J_region ?_
  refine L_v rfl rfl rfl (V_move rfl rfl) ?_
  refine L_v rfl rfl rfl (V_nilCheck rfl rfl) ?_
  refine L_v rfl rfl rfl (V_fieldAddr rfl rfl Tryz.underlying139 rfl sz22r rfl) ?_
  refine L_v rfl rfl rfl (V_loadF rfl rfl Tryz.underlying22 rfl (fun w hw => OkW.later hw rfl hb) rfl) ?_
  refine L_v rfl rfl rfl (V_len rfl rfl Tryz.underlying22 rfl) ?_
  refine L_v rfl rfl rfl (V_assign rfl rfl) ?_
  refine L_nil ?_
  change J _ _ _ _
  refine J_ret ?_
  change Kret _ _ _ Exit.ret _
  refine ret1 rfl rfl (RV_t rfl) ?_
  exact fun w' h => ⟨rfl, h.fr⟩

theorem left_nil (w : World) :
    Calls Tryz.prog 60 #[.pointer none] w fun e w' => e = .returned (.int .i64 0) ∧ Fr [] w w' := by
  refine calls_of (args := [.pointer none]) ([]) ([]) ([]) Tryz.func60 rfl rfl (okW0 _ _ _ _) ?_
  refine J_seq ?_
  refine J_region ?_
  refine L_v rfl rfl rfl (V_assign rfl rfl) ?_
  refine L_nil ?_
  change J _ _ _ _
  refine J_seq ?_
  refine J_seq ?_
  refine J_region ?_
  refine L_v rfl rfl rfl (V_move rfl rfl) ?_
  refine L_v rfl rfl rfl (V_eqP rfl rfl rfl Tryz.underlying110 rfl) ?_
  refine L_nil ?_
  change J _ _ _ _
  refine J_true rfl ?_
  refine J_seq ?_
  refine J_region ?_
  refine L_v rfl rfl rfl (V_assign rfl rfl) ?_
  refine L_nil ?_
  change J _ _ _ _
  refine J_ret ?_
  change Kret _ _ _ Exit.ret _
  refine ret1 rfl rfl (RV_t rfl) ?_
  exact fun w' h => ⟨rfl, h.fr⟩

theorem peek_nil (w : World) :
    Calls Tryz.prog 116 #[.pointer none] w fun e w' => e = .returned (.tuple #[.int .i64 0, .int .i64 0, .int .i64 3]) ∧ Fr [] w w' := by
  refine calls_of (args := [.pointer none]) ([]) ([]) ([]) Tryz.func116 rfl rfl (okW0 _ _ _ _) ?_
  refine J_seq ?_
  refine J_region ?_
  refine L_v rfl rfl rfl (V_assign rfl rfl) ?_
  refine L_v rfl rfl rfl (V_assign rfl rfl) ?_
  refine L_v rfl rfl rfl (V_assign rfl rfl) ?_
  refine L_nil ?_
  change J _ _ _ _
  refine J_seq ?_
  refine J_seq ?_
  refine J_region ?_
  refine L_v rfl rfl rfl (V_move rfl rfl) ?_
  refine L_v rfl rfl rfl (V_eqP rfl rfl rfl Tryz.underlying110 rfl) ?_
  refine L_nil ?_
  change J _ _ _ _
  refine J_true rfl ?_
  refine J_seq ?_
  refine J_region ?_
  refine L_v rfl rfl rfl (V_assign rfl rfl) ?_
  refine L_v rfl rfl rfl (V_assign rfl rfl) ?_
  refine L_v rfl rfl rfl (V_assign rfl rfl) ?_
  refine L_nil ?_
  change J _ _ _ _
  refine J_ret ?_
  change Kret _ _ _ Exit.ret _
  refine ret3 rfl rfl (RV_t rfl) (RV_t rfl) (RV_t rfl) ?_
  exact fun w' h => ⟨rfl, h.fr⟩

theorem peek_w (b : Nat) (a : Option Addr) (n c : Nat) (l : List Int) (w : World) (hb : w.heap[b]? = some (row 139 [.slice a n c])) (hu : SlB w (.slice a n c) l) (hby : Byt l) (hcn : n ≤ c) (hn : n ≤ 1099511627776) :
    Calls Tryz.prog 116 #[.pointer (some ⟨b, 0, none⟩)] w fun e w' => e = .returned (.tuple #[.int .i64 (rc l).1, .int .i64 (rc l).2.1, .int .i64 (rc l).2.2]) ∧ Fr [] w w' := by
  have hl := hu.size
  have hmin : (if (n : Int) < 5 then (n : Int) else 5) = ((min n 5 : Nat) : Int) := by split <;> omega
  refine calls_of (args := [.pointer (some ⟨b, 0, none⟩)]) ([]) ([]) ([]) Tryz.func116 rfl rfl (okW0 _ _ _ _) ?_
  refine J_seq ?_
  refine J_region ?_
  refine L_v rfl rfl rfl (V_assign rfl rfl) ?_
  refine L_v rfl rfl rfl (V_assign rfl rfl) ?_
  refine L_v rfl rfl rfl (V_assign rfl rfl) ?_
  refine L_nil ?_
  change J _ _ _ _
  refine J_seq ?_
  refine J_seq ?_
  refine J_region ?_
  refine L_v rfl rfl rfl (V_move rfl rfl) ?_
  refine L_v rfl rfl rfl (V_eqP rfl rfl rfl Tryz.underlying110 rfl) ?_
  refine L_nil ?_
  change J _ _ _ _
  refine J_false rfl ?_
  refine J_skip ?_
  change J _ _ _ _
  refine J_seq ?_
  refine J_seq ?_
  refine J_regionQ rfl (by kernel_rfl) ?_
  refine LQ_v rfl rfl rfl (V_move rfl rfl) ?_
  refine LQ_v rfl rfl rfl (V_nilCheck rfl rfl) ?_
  refine LQ_v rfl rfl rfl (V_fieldAddr rfl rfl Tryz.underlying139 rfl sz22r rfl) ?_
  refine LQ_v rfl rfl rfl (V_loadF rfl rfl Tryz.underlying22 rfl (fun w hw => OkW.later hw rfl hb) rfl) ?_
  refine LQ_v rfl rfl rfl (V_move rfl rfl) ?_
  refine LQ_v rfl rfl rfl (V_nilCheck rfl rfl) ?_
  refine LQ_v rfl rfl rfl (V_fieldAddr rfl rfl Tryz.underlying139 rfl sz22r rfl) ?_
  refine LQ_v rfl rfl rfl (V_loadF rfl rfl Tryz.underlying22 rfl (fun w hw => OkW.later hw rfl hb) rfl) ?_
  refine LQ_v rfl rfl rfl (V_len rfl rfl Tryz.underlying22 rfl) ?_
  refine LQ_v rfl rfl rfl (V_min rfl rfl rfl hmin) ?_
  refine LQ_v rfl rfl rfl (V_slice0 rfl rfl Tryz.underlying22 sz5r ⟨_, rfl⟩ rfl rfl (by first | omega | (simp; omega)) (by first | omega | (simp; omega))) ?_
  refine LQ_v rfl rfl rfl (V_len rfl rfl Tryz.underlying22 rfl) ?_
  refine LQ_v rfl rfl rfl (V_move rfl rfl) ?_
  refine LQ_nil ?_
  change J _ _ _ _
  refine J_block ?_
  refine J_loop (X := Nat × Int) (fun q => { env := [(0, .pointer (some ⟨b, 0, none⟩)), (2, .int .i64 q.2), (19, .slice a (min n 5) c), (20, .int .i64 ((min n 5 : Nat) : Int)), (21, .int .i64 (q.1 : Int))] }) (fun q => q.1 ≤ min n 5 ∧ 0 ≤ q.2 ∧ q.2 < 128 ^ q.1 ∧ rcAt l q.1 q.2 = rc l) (fun q => min n 5 - q.1) (0, 0) ⟨Nat.zero_le _, by decide, by decide, rfl⟩ ⟨⟨rfl, rfl, rfl, rfl, rfl, trivial⟩, List.Sublist.refl _, fun f hf => hf, rfl⟩ ?_
  rintro ⟨i, x⟩ ⟨hi, hx0, hx1, hrc⟩
  simp only at hi hx0 hx1 hrc ⊢
  refine J_seq ?_
  refine J_region ?_
  refine L_v rfl rfl rfl (V_lss rfl rfl rfl (by first | exact decide_eq_true (by omega) | exact decide_eq_false (by omega) | rfl)) ?_
  refine L_nil ?_
  change J _ _ _ _
  refine J_seq ?_
  refine J_cond rfl (fun h1 => ?_) (fun h1 => ?_)
  ·
    first | (have h1 := of_decide_eq_true h1) | (have h1 := of_decide_eq_false h1) | skip
    have hg := byt_getD hby i
    have hp := p128 (show i ≤ 4 by omega)
    have hm := mul128 (g := l.getD i 0) hp.1
    have hst := rcAt_step (l := l) x (show i < 5 by omega) (show i < l.length by omega)
    rw [hrc] at hst
    have hgd : (l.take (min n 5)).getD ((i : Nat) : Int).toNat 0 = l.getD i 0 := by rw [Int.toNat_natCast]; exact getD_take (by omega)
    refine J_skip ?_
    change J _ _ _ _
    refine J_seq ?_
    refine J_block ?_
    refine J_seq ?_
    refine J_region ?_
    refine L_v rfl rfl rfl (V_move rfl rfl) ?_
    refine L_v rfl rfl rfl (V_indexB rfl rfl rfl Tryz.underlying22 sz5r (fun w hw => SlB.take (SlB.later hw rfl hu) (by first | omega | (simp; omega)) _) (by omega) (by omega)) ?_
    refine L_v rfl rfl rfl (V_loadB rfl rfl Tryz.underlying5 rfl (fun w hw => SlB.take (SlB.later hw rfl hu) (by first | omega | (simp; omega)) 0) (by omega) hgd) ?_
    refine L_v rfl rfl rfl (V_assign rfl rfl) ?_
    refine L_v rfl rfl rfl (V_assign rfl rfl) ?_
    refine L_nil ?_
    change J _ _ _ _
    refine J_seq ?_
    refine J_region ?_
    refine L_v rfl rfl rfl (V_move rfl rfl) ?_
    refine L_v rfl rfl rfl (V_move rfl rfl) ?_
    refine L_v rfl rfl rfl (V_and rfl rfl rfl (and127 hg)) ?_
    refine L_v rfl rfl rfl (V_conv rfl rfl Tryz.underlying5 Tryz.underlying3 (by first | exact Go.IntWalk.i64_in _ (by omega) | rfl)) ?_
    refine L_v rfl rfl rfl (V_move rfl rfl) ?_
    refine L_v rfl rfl rfl (V_mul rfl rfl rfl (by first | exact Go.IntWalk.i64_in _ (by omega) | rfl)) ?_
    refine L_v rfl rfl rfl (V_shl rfl rfl rfl (by omega) (shl_i (by omega))) ?_
    refine L_v rfl rfl rfl (V_or rfl rfl rfl (or_i (by omega) hx0 hx1)) ?_
    refine L_v rfl rfl rfl (V_assign rfl rfl) ?_
    refine L_nil ?_
    change J _ _ _ _
    refine J_block ?_
    refine J_seq ?_
    refine J_region ?_
    refine L_v rfl rfl rfl (V_move rfl rfl) ?_
    refine L_v rfl rfl rfl (V_geq rfl rfl rfl (by first | exact decide_eq_true (by omega) | exact decide_eq_false (by omega) | rfl)) ?_
    refine L_v rfl rfl rfl (V_assign rfl rfl) ?_
    refine L_nil ?_
    change J _ _ _ _
    refine J_cond rfl (fun h2 => ?_) (fun h2 => ?_)
    ·
      first | (have h2 := of_decide_eq_true h2) | (have h2 := of_decide_eq_false h2) | skip
      refine J_skip ?_
      change J _ _ _ _
      refine J_region ?_
      refine L_v rfl rfl rfl (V_add rfl rfl rfl (by first | exact Go.IntWalk.i64_in _ (by omega) | rfl)) ?_
      refine L_v rfl rfl rfl (V_move rfl rfl) ?_
      refine L_nil ?_
      rw [if_pos (by omega)] at hst
      exact ⟨(i + 1, x + l.getD i 0 % 128 * 128 ^ i), ⟨by show i + 1 ≤ _; omega, by show 0 ≤ x + _; omega, by show x + _ < 128 ^ (i + 1); rw [Int.pow_succ]; omega, hst.symm⟩, by show _ - (i + 1) < _ - i; omega, ⟨rfl, rfl, rfl, rfl, rfl, trivial⟩, List.Sublist.refl _, fun f hf => hf, rfl⟩
    ·
      first | (have h2 := of_decide_eq_true h2) | (have h2 := of_decide_eq_false h2) | skip
      refine J_seq ?_
      refine J_region ?_
      refine L_v rfl rfl rfl (V_move rfl rfl) ?_
      refine L_v rfl rfl rfl (V_eql rfl rfl rfl (by first | exact decide_eq_true (by omega) | exact decide_eq_false (by omega) | rfl)) ?_
      refine L_v rfl rfl rfl (V_move rfl rfl) ?_
      refine L_split 43 rfl (fun h3 => ?_) (fun h3 => ?_)
      ·
        first | (have h3 := of_decide_eq_true h3) | (have h3 := of_decide_eq_false h3) | skip
        refine L_wv rfl rfl rfl rfl rfl rfl (V_move rfl rfl) ?_
        refine L_wv rfl rfl rfl rfl rfl rfl (V_gtr rfl rfl rfl (by first | exact decide_eq_true (by omega) | exact decide_eq_false (by omega) | rfl)) ?_
        first | refine L_v rfl rfl rfl (V_pickT rfl rfl rfl) ?_ | refine L_v rfl rfl rfl (V_pickF rfl rfl rfl) ?_
        refine L_v rfl rfl rfl (V_move rfl rfl) ?_
        refine L_split 47 rfl (fun h4 => ?_) (fun h4 => ?_)
        ·
          first | (have h4 := of_decide_eq_true h4) | (have h4 := of_decide_eq_false h4) | skip
          refine L_skip rfl rfl rfl rfl rfl rfl rfl ?_
          refine L_skip rfl rfl rfl rfl rfl rfl rfl ?_
          first | refine L_v rfl rfl rfl (V_pickT rfl rfl rfl) ?_ | refine L_v rfl rfl rfl (V_pickF rfl rfl rfl) ?_
          refine L_v rfl rfl rfl (V_assign rfl rfl) ?_
          refine L_nil ?_
          change J _ _ _ _
          refine J_true rfl ?_
          refine J_seq ?_
          refine J_region ?_
          refine L_v rfl rfl rfl (V_assign rfl rfl) ?_
          refine L_v rfl rfl rfl (V_assign rfl rfl) ?_
          refine L_v rfl rfl rfl (V_assign rfl rfl) ?_
          refine L_nil ?_
          change J _ _ _ _
          refine J_ret ?_
          change Kret _ _ _ Exit.ret _
          refine ret3 rfl rfl (RV_t rfl) (RV_t rfl) (RV_t rfl) ?_
          rw [if_neg (by omega), if_pos (by omega)] at hst
          exact fun w' h => ⟨by rw [hst], h.fr⟩
        ·
          first | (have h4 := of_decide_eq_true h4) | (have h4 := of_decide_eq_false h4) | skip
          refine L_wv rfl rfl rfl rfl rfl rfl (V_move rfl rfl) ?_
          refine L_wv rfl rfl rfl rfl rfl rfl (V_gtr rfl rfl rfl (by first | exact decide_eq_true (by omega) | exact decide_eq_false (by omega) | rfl)) ?_
          first | refine L_v rfl rfl rfl (V_pickT rfl rfl rfl) ?_ | refine L_v rfl rfl rfl (V_pickF rfl rfl rfl) ?_
          refine L_v rfl rfl rfl (V_assign rfl rfl) ?_
          refine L_nil ?_
          change J _ _ _ _
          refine J_cond rfl (fun h5 => ?_) (fun h5 => ?_)
          ·
            first | (have h5 := of_decide_eq_true h5) | (have h5 := of_decide_eq_false h5) | skip
            refine J_seq ?_
            refine J_region ?_
            refine L_v rfl rfl rfl (V_assign rfl rfl) ?_
            refine L_v rfl rfl rfl (V_assign rfl rfl) ?_
            refine L_v rfl rfl rfl (V_assign rfl rfl) ?_
            refine L_nil ?_
            change J _ _ _ _
            refine J_ret ?_
            change Kret _ _ _ Exit.ret _
            refine ret3 rfl rfl (RV_t rfl) (RV_t rfl) (RV_t rfl) ?_
            rw [if_neg (by omega), if_pos (by omega)] at hst
            exact fun w' h => ⟨by rw [hst], h.fr⟩
          ·
            first | (have h5 := of_decide_eq_true h5) | (have h5 := of_decide_eq_false h5) | skip
            refine J_seq ?_
            refine J_region ?_
            refine L_v rfl rfl rfl (V_move rfl rfl) ?_
            refine L_v rfl rfl rfl (V_move rfl rfl) ?_
            refine L_v rfl rfl rfl (V_add rfl rfl rfl (by first | exact Go.IntWalk.i64_in _ (by omega) | rfl)) ?_
            refine L_v rfl rfl rfl (V_assign rfl rfl) ?_
            refine L_v rfl rfl rfl (V_assign rfl rfl) ?_
            refine L_v rfl rfl rfl (V_assign rfl rfl) ?_
            refine L_nil ?_
            change J _ _ _ _
            refine J_ret ?_
            change Kret _ _ _ Exit.ret _
            refine ret3 rfl rfl (RV_t rfl) (RV_t rfl) (RV_t rfl) ?_
            rw [if_neg (by omega), if_neg (by omega)] at hst
            exact fun w' h => ⟨by rw [hst], h.fr⟩
      ·
        first | (have h3 := of_decide_eq_true h3) | (have h3 := of_decide_eq_false h3) | skip
        refine L_skip rfl rfl rfl rfl rfl rfl rfl ?_
        refine L_skip rfl rfl rfl rfl rfl rfl rfl ?_
        first | refine L_v rfl rfl rfl (V_pickT rfl rfl rfl) ?_ | refine L_v rfl rfl rfl (V_pickF rfl rfl rfl) ?_
        refine L_v rfl rfl rfl (V_move rfl rfl) ?_
        refine L_wv rfl rfl rfl rfl rfl rfl (V_move rfl rfl) ?_
        refine L_wv rfl rfl rfl rfl rfl rfl (V_gtr rfl rfl rfl (by first | exact decide_eq_true (by omega) | exact decide_eq_false (by omega) | rfl)) ?_
        first | refine L_v rfl rfl rfl (V_pickT rfl rfl rfl) ?_ | refine L_v rfl rfl rfl (V_pickF rfl rfl rfl) ?_
        refine L_v rfl rfl rfl (V_assign rfl rfl) ?_
        refine L_nil ?_
        change J _ _ _ _
        refine J_cond rfl (fun h4 => ?_) (fun h4 => ?_)
        ·
          first | (have h4 := of_decide_eq_true h4) | (have h4 := of_decide_eq_false h4) | skip
          refine J_seq ?_
          refine J_region ?_
          refine L_v rfl rfl rfl (V_assign rfl rfl) ?_
          refine L_v rfl rfl rfl (V_assign rfl rfl) ?_
          refine L_v rfl rfl rfl (V_assign rfl rfl) ?_
          refine L_nil ?_
          change J _ _ _ _
          refine J_ret ?_
          change Kret _ _ _ Exit.ret _
          refine ret3 rfl rfl (RV_t rfl) (RV_t rfl) (RV_t rfl) ?_
          rw [if_neg (by omega), if_pos (by omega)] at hst
          exact fun w' h => ⟨by rw [hst], h.fr⟩
        ·
          first | (have h4 := of_decide_eq_true h4) | (have h4 := of_decide_eq_false h4) | skip
          refine J_seq ?_
          refine J_region ?_
          refine L_v rfl rfl rfl (V_move rfl rfl) ?_
          refine L_v rfl rfl rfl (V_move rfl rfl) ?_
          refine L_v rfl rfl rfl (V_add rfl rfl rfl (by first | exact Go.IntWalk.i64_in _ (by omega) | rfl)) ?_
          refine L_v rfl rfl rfl (V_assign rfl rfl) ?_
          refine L_v rfl rfl rfl (V_assign rfl rfl) ?_
          refine L_v rfl rfl rfl (V_assign rfl rfl) ?_
          refine L_nil ?_
          change J _ _ _ _
          refine J_ret ?_
          change Kret _ _ _ Exit.ret _
          refine ret3 rfl rfl (RV_t rfl) (RV_t rfl) (RV_t rfl) ?_
          rw [if_neg (by omega), if_neg (by omega)] at hst
          exact fun w' h => ⟨by rw [hst], h.fr⟩
  ·
    first | (have h1 := of_decide_eq_true h1) | (have h1 := of_decide_eq_false h1) | skip
    have hie : i = min n 5 := by omega
    refine J_exit ?_
    change J _ _ _ _
    refine J_seq ?_
    refine J_seq ?_
    refine J_region ?_
    refine L_v rfl rfl rfl (V_move rfl rfl) ?_
    refine L_v rfl rfl rfl (V_nilCheck rfl rfl) ?_
    refine L_v rfl rfl rfl (V_fieldAddr rfl rfl Tryz.underlying139 rfl sz22r rfl) ?_
    refine L_v rfl rfl rfl (V_loadF rfl rfl Tryz.underlying22 rfl (fun w hw => OkW.later hw rfl hb) rfl) ?_
    refine L_v rfl rfl rfl (V_len rfl rfl Tryz.underlying22 rfl) ?_
    refine L_v rfl rfl rfl (V_lss rfl rfl rfl (by first | exact decide_eq_true (by omega) | exact decide_eq_false (by omega) | rfl)) ?_
    refine L_nil ?_
    change J _ _ _ _
    refine J_cond rfl (fun h2 => ?_) (fun h2 => ?_)
    ·
      first | (have h2 := of_decide_eq_true h2) | (have h2 := of_decide_eq_false h2) | skip
      refine J_seq ?_
      refine J_region ?_
      refine L_v rfl rfl rfl (V_assign rfl rfl) ?_
      refine L_v rfl rfl rfl (V_assign rfl rfl) ?_
      refine L_v rfl rfl rfl (V_assign rfl rfl) ?_
      refine L_nil ?_
      change J _ _ _ _
      refine J_ret ?_
      change Kret _ _ _ Exit.ret _
      refine ret3 rfl rfl (RV_t rfl) (RV_t rfl) (RV_t rfl) ?_
      have := rcAt_end (l := l) x (show i < 5 by omega) (show l.length ≤ i by omega)
      rw [hrc] at this
      exact fun w' h => ⟨by rw [this], h.fr⟩
    ·
      first | (have h2 := of_decide_eq_true h2) | (have h2 := of_decide_eq_false h2) | skip
      refine J_skip ?_
      change J _ _ _ _
      refine J_seq ?_
      refine J_region ?_
      refine L_v rfl rfl rfl (V_assign rfl rfl) ?_
      refine L_v rfl rfl rfl (V_assign rfl rfl) ?_
      refine L_v rfl rfl rfl (V_assign rfl rfl) ?_
      refine L_nil ?_
      change J _ _ _ _
      refine J_ret ?_
      change Kret _ _ _ Exit.ret _
      refine ret3 rfl rfl (RV_t rfl) (RV_t rfl) (RV_t rfl) ?_
      obtain rfl : i = 5 := by omega
      have := rcAt_out l x
      rw [hrc] at this
      exact fun w' h => ⟨by rw [this], h.fr⟩

theorem readCount_w (a : Option Addr) (n c : Nat) (l : List Int) (w : World) (hu : SlB w (.slice a n c) l) (hby : Byt l) (hcn : n ≤ c) (hn : n ≤ 1099511627776) :
    Calls Tryz.prog 100 #[.slice a n c] w fun e w' => e = .returned (.tuple #[.int .i64 (rc l).1, .int .i64 (rc l).2.1, .int .i64 (rc l).2.2]) ∧ Fr [] w w' := by
  have hl := hu.size
  refine calls_of (args := [.slice a n c]) ([]) ([]) ([]) Tryz.func100 rfl rfl (okW0 _ _ _ _) ?_
  refine J_seq ?_
  refine J_region ?_
  refine L_v rfl rfl rfl (V_assign rfl rfl) ?_
  refine L_v rfl rfl rfl (V_assign rfl rfl) ?_
  refine L_v rfl rfl rfl (V_assign rfl rfl) ?_
  refine L_nil ?_
  change J _ _ _ _
  refine J_seq ?_
  refine J_region ?_
  refine L_v rfl rfl rfl (V_assign rfl rfl) ?_
  refine L_nil ?_
  change J _ _ _ _
  refine J_seq ?_
  refine J_region ?_
  refine L_v rfl rfl rfl (V_assign rfl rfl) ?_
  refine L_nil ?_
  change J _ _ _ _
  refine J_seq ?_
  refine J_seq ?_
  refine J_region ?_
  refine L_v rfl rfl rfl (V_assign rfl rfl) ?_
  refine L_nil ?_
  change J _ _ _ _
  refine J_block ?_
  refine J_loop (X := Nat × Int) (fun q => { env := [(0, .slice a n c), (5, .int .i64 q.2), (6, .int .i64 (128 ^ q.1)), (7, .int .i64 (q.1 : Int))] }) (fun q => q.1 ≤ 5 ∧ 0 ≤ q.2 ∧ q.2 < 128 ^ q.1 ∧ rcAt l q.1 q.2 = rc l) (fun q => 5 - q.1) (0, 0) ⟨Nat.zero_le _, by decide, by decide, rfl⟩ ⟨⟨rfl, rfl, rfl, rfl, trivial⟩, List.Sublist.refl _, fun f hf => hf, rfl⟩ ?_
  rintro ⟨i, x⟩ ⟨hi, hx0, hx1, hrc⟩
  simp only at hi hx0 hx1 hrc ⊢
  refine J_seq ?_
  refine J_seq ?_
  refine J_region ?_
  refine L_v rfl rfl rfl (V_move rfl rfl) ?_
  refine L_v rfl rfl rfl (V_lss rfl rfl rfl (by first | exact decide_eq_true (by omega) | exact decide_eq_false (by omega) | rfl)) ?_
  refine L_nil ?_
  change J _ _ _ _
  refine J_cond rfl (fun h1 => ?_) (fun h1 => ?_)
  ·
    first | (have h1 := of_decide_eq_true h1) | (have h1 := of_decide_eq_false h1) | skip
    refine J_skip ?_
    change J _ _ _ _
    refine J_seq ?_
    refine J_block ?_
    refine J_seq ?_
    refine J_seq ?_
    refine J_region ?_
    refine L_v rfl rfl rfl (V_move rfl rfl) ?_
    refine L_v rfl rfl rfl (V_move rfl rfl) ?_
    refine L_v rfl rfl rfl (V_len rfl rfl Tryz.underlying22 rfl) ?_
    refine L_v rfl rfl rfl (V_geq rfl rfl rfl (by first | exact decide_eq_true (by omega) | exact decide_eq_false (by omega) | rfl)) ?_
    refine L_nil ?_
    change J _ _ _ _
    refine J_cond rfl (fun h2 => ?_) (fun h2 => ?_)
    ·
      first | (have h2 := of_decide_eq_true h2) | (have h2 := of_decide_eq_false h2) | skip
      refine J_seq ?_
      refine J_region ?_
      refine L_v rfl rfl rfl (V_assign rfl rfl) ?_
      refine L_v rfl rfl rfl (V_assign rfl rfl) ?_
      refine L_v rfl rfl rfl (V_assign rfl rfl) ?_
      refine L_nil ?_
      change J _ _ _ _
      refine J_ret ?_
      change Kret _ _ _ Exit.ret _
      refine ret3 rfl rfl (RV_t rfl) (RV_t rfl) (RV_t rfl) ?_
      have := rcAt_end (l := l) x (show i < 5 by omega) (show l.length ≤ i by omega)
      rw [hrc] at this
      exact fun w' h => ⟨by rw [this], h.fr⟩
    ·
      first | (have h2 := of_decide_eq_true h2) | (have h2 := of_decide_eq_false h2) | skip
      have hg := byt_getD hby i
      have hp := p128 (show i ≤ 4 by omega)
      have hm := mul128 (g := l.getD i 0) hp.1
      have hst := rcAt_step (l := l) x (show i < 5 by omega) (show i < l.length by omega)
      rw [hrc] at hst
      have hgd : l.getD ((i : Nat) : Int).toNat 0 = l.getD i 0 := by rw [Int.toNat_natCast]
      refine J_skip ?_
      change J _ _ _ _
      refine J_seq ?_
      refine J_region ?_
      refine L_v rfl rfl rfl (V_move rfl rfl) ?_
      refine L_v rfl rfl rfl (V_move rfl rfl) ?_
      refine L_v rfl rfl rfl (V_move rfl rfl) ?_
      refine L_v rfl rfl rfl (V_indexB rfl rfl rfl Tryz.underlying22 sz5r (fun w hw => SlB.later hw rfl hu) (by omega) (by omega)) ?_
      refine L_v rfl rfl rfl (V_loadB rfl rfl Tryz.underlying5 rfl (fun w hw => SlB.later hw rfl hu) (by omega) hgd) ?_
      refine L_v rfl rfl rfl (V_rem rfl rfl rfl (by omega) (by first | exact r64 (by omega) | rfl)) ?_
      refine L_v rfl rfl rfl (V_conv rfl rfl Tryz.underlying5 Tryz.underlying3 (by first | exact Go.IntWalk.i64_in _ (by omega) | rfl)) ?_
      refine L_v rfl rfl rfl (V_move rfl rfl) ?_
      refine L_v rfl rfl rfl (V_mul rfl rfl rfl (by first | exact Go.IntWalk.i64_in _ (by omega) | rfl)) ?_
      refine L_v rfl rfl rfl (V_add rfl rfl rfl (by first | exact Go.IntWalk.i64_in _ (by omega) | rfl)) ?_
      refine L_v rfl rfl rfl (V_assign rfl rfl) ?_
      refine L_nil ?_
      change J _ _ _ _
      refine J_seq ?_
      refine J_region ?_
      refine L_v rfl rfl rfl (V_move rfl rfl) ?_
      refine L_v rfl rfl rfl (V_mul rfl rfl rfl (by first | exact Go.IntWalk.i64_in _ (by omega) | rfl)) ?_
      refine L_v rfl rfl rfl (V_assign rfl rfl) ?_
      refine L_nil ?_
      change J _ _ _ _
      refine J_seq ?_
      refine J_seq ?_
      refine J_region ?_
      refine L_v rfl rfl rfl (V_move rfl rfl) ?_
      refine L_v rfl rfl rfl (V_move rfl rfl) ?_
      refine L_v rfl rfl rfl (V_indexB rfl rfl rfl Tryz.underlying22 sz5r (fun w hw => SlB.later hw rfl hu) (by omega) (by omega)) ?_
      refine L_v rfl rfl rfl (V_loadB rfl rfl Tryz.underlying5 rfl (fun w hw => SlB.later hw rfl hu) (by omega) hgd) ?_
      refine L_v rfl rfl rfl (V_geq rfl rfl rfl (by first | exact decide_eq_true (by omega) | exact decide_eq_false (by omega) | rfl)) ?_
      refine L_nil ?_
      change J _ _ _ _
      refine J_cond rfl (fun h3 => ?_) (fun h3 => ?_)
      ·
        first | (have h3 := of_decide_eq_true h3) | (have h3 := of_decide_eq_false h3) | skip
        refine J_exit ?_
        change J _ _ _ _
        refine J_region ?_
        refine L_v rfl rfl rfl (V_move rfl rfl) ?_
        refine L_v rfl rfl rfl (V_add rfl rfl rfl (by first | exact Go.IntWalk.i64_in _ (by omega) | rfl)) ?_
        refine L_v rfl rfl rfl (V_assign rfl rfl) ?_
        refine L_nil ?_
        rw [if_pos (by omega)] at hst
        exact ⟨(i + 1, x + l.getD i 0 % 128 * 128 ^ i), ⟨by show i + 1 ≤ _; omega, by show 0 ≤ x + _; omega, by show x + _ < 128 ^ (i + 1); rw [Int.pow_succ]; omega, hst.symm⟩, by show _ - (i + 1) < _ - i; omega, ⟨rfl, rfl, by rw [Int.pow_succ]; rfl, rfl, trivial⟩, List.Sublist.refl _, fun f hf => hf, rfl⟩
      ·
        first | (have h3 := of_decide_eq_true h3) | (have h3 := of_decide_eq_false h3) | skip
        refine J_skip ?_
        change J _ _ _ _
        refine J_seq ?_
        refine J_seq ?_
        refine J_region ?_
        refine L_v rfl rfl rfl (V_move rfl rfl) ?_
        refine L_v rfl rfl rfl (V_gtr rfl rfl rfl (by first | exact decide_eq_true (by omega) | exact decide_eq_false (by omega) | rfl)) ?_
        refine L_v rfl rfl rfl (V_move rfl rfl) ?_
        refine L_split 35 rfl (fun h4 => ?_) (fun h4 => ?_)
        ·
          first | (have h4 := of_decide_eq_true h4) | (have h4 := of_decide_eq_false h4) | skip
          refine L_wv rfl rfl rfl rfl rfl rfl (V_move rfl rfl) ?_
          refine L_wv rfl rfl rfl rfl rfl rfl (V_move rfl rfl) ?_
          refine L_wv rfl rfl rfl rfl rfl rfl (V_indexB rfl rfl rfl Tryz.underlying22 sz5r (fun w hw => SlB.later hw rfl hu) (by omega) (by omega)) ?_
          refine L_wv rfl rfl rfl rfl rfl rfl (V_loadB rfl rfl Tryz.underlying5 rfl (fun w hw => SlB.later hw rfl hu) (by omega) hgd) ?_
          refine L_wv rfl rfl rfl rfl rfl rfl (V_eql rfl rfl rfl (by first | exact decide_eq_true (by omega) | exact decide_eq_false (by omega) | rfl)) ?_
          first | refine L_v rfl rfl rfl (V_pickT rfl rfl rfl) ?_ | refine L_v rfl rfl rfl (V_pickF rfl rfl rfl) ?_
          refine L_v rfl rfl rfl (V_move rfl rfl) ?_
          refine L_split 42 rfl (fun h5 => ?_) (fun h5 => ?_)
          ·
            first | (have h5 := of_decide_eq_true h5) | (have h5 := of_decide_eq_false h5) | skip
            refine L_skip rfl rfl rfl rfl rfl rfl rfl ?_
            refine L_skip rfl rfl rfl rfl rfl rfl rfl ?_
            first | refine L_v rfl rfl rfl (V_pickT rfl rfl rfl) ?_ | refine L_v rfl rfl rfl (V_pickF rfl rfl rfl) ?_
            refine L_nil ?_
            change J _ _ _ _
            refine J_true rfl ?_
            refine J_seq ?_
            refine J_region ?_
            refine L_v rfl rfl rfl (V_assign rfl rfl) ?_
            refine L_v rfl rfl rfl (V_assign rfl rfl) ?_
            refine L_v rfl rfl rfl (V_assign rfl rfl) ?_
            refine L_nil ?_
            change J _ _ _ _
            refine J_ret ?_
            change Kret _ _ _ Exit.ret _
            refine ret3 rfl rfl (RV_t rfl) (RV_t rfl) (RV_t rfl) ?_
            rw [if_neg (by omega), if_pos (by omega)] at hst
            exact fun w' h => ⟨by rw [hst], h.fr⟩
          ·
            first | (have h5 := of_decide_eq_true h5) | (have h5 := of_decide_eq_false h5) | skip
            refine L_wv rfl rfl rfl rfl rfl rfl (V_move rfl rfl) ?_
            refine L_wv rfl rfl rfl rfl rfl rfl (V_gtr rfl rfl rfl (by first | exact decide_eq_true (by omega) | exact decide_eq_false (by omega) | rfl)) ?_
            first | refine L_v rfl rfl rfl (V_pickT rfl rfl rfl) ?_ | refine L_v rfl rfl rfl (V_pickF rfl rfl rfl) ?_
            refine L_nil ?_
            change J _ _ _ _
            refine J_cond rfl (fun h6 => ?_) (fun h6 => ?_)
            ·
              first | (have h6 := of_decide_eq_true h6) | (have h6 := of_decide_eq_false h6) | skip
              refine J_seq ?_
              refine J_region ?_
              refine L_v rfl rfl rfl (V_assign rfl rfl) ?_
              refine L_v rfl rfl rfl (V_assign rfl rfl) ?_
              refine L_v rfl rfl rfl (V_assign rfl rfl) ?_
              refine L_nil ?_
              change J _ _ _ _
              refine J_ret ?_
              change Kret _ _ _ Exit.ret _
              refine ret3 rfl rfl (RV_t rfl) (RV_t rfl) (RV_t rfl) ?_
              rw [if_neg (by omega), if_pos (by omega)] at hst
              exact fun w' h => ⟨by rw [hst], h.fr⟩
            ·
              first | (have h6 := of_decide_eq_true h6) | (have h6 := of_decide_eq_false h6) | skip
              refine J_skip ?_
              change J _ _ _ _
              refine J_seq ?_
              refine J_region ?_
              refine L_v rfl rfl rfl (V_move rfl rfl) ?_
              refine L_v rfl rfl rfl (V_move rfl rfl) ?_
              refine L_v rfl rfl rfl (V_add rfl rfl rfl (by first | exact Go.IntWalk.i64_in _ (by omega) | rfl)) ?_
              refine L_v rfl rfl rfl (V_assign rfl rfl) ?_
              refine L_v rfl rfl rfl (V_assign rfl rfl) ?_
              refine L_v rfl rfl rfl (V_assign rfl rfl) ?_
              refine L_nil ?_
              change J _ _ _ _
              refine J_ret ?_
              change Kret _ _ _ Exit.ret _
              refine ret3 rfl rfl (RV_t rfl) (RV_t rfl) (RV_t rfl) ?_
              rw [if_neg (by omega), if_neg (by omega)] at hst
              exact fun w' h => ⟨by rw [hst], h.fr⟩
        ·
          first | (have h4 := of_decide_eq_true h4) | (have h4 := of_decide_eq_false h4) | skip
          refine L_skip rfl rfl rfl rfl rfl rfl rfl ?_
          refine L_skip rfl rfl rfl rfl rfl rfl rfl ?_
          refine L_skip rfl rfl rfl rfl rfl rfl rfl ?_
          refine L_skip rfl rfl rfl rfl rfl rfl rfl ?_
          refine L_skip rfl rfl rfl rfl rfl rfl rfl ?_
          first | refine L_v rfl rfl rfl (V_pickT rfl rfl rfl) ?_ | refine L_v rfl rfl rfl (V_pickF rfl rfl rfl) ?_
          refine L_v rfl rfl rfl (V_move rfl rfl) ?_
          refine L_wv rfl rfl rfl rfl rfl rfl (V_move rfl rfl) ?_
          refine L_wv rfl rfl rfl rfl rfl rfl (V_gtr rfl rfl rfl (by first | exact decide_eq_true (by omega) | exact decide_eq_false (by omega) | rfl)) ?_
          first | refine L_v rfl rfl rfl (V_pickT rfl rfl rfl) ?_ | refine L_v rfl rfl rfl (V_pickF rfl rfl rfl) ?_
          refine L_nil ?_
          change J _ _ _ _
          refine J_cond rfl (fun h5 => ?_) (fun h5 => ?_)
          ·
            first | (have h5 := of_decide_eq_true h5) | (have h5 := of_decide_eq_false h5) | skip
            refine J_seq ?_
            refine J_region ?_
            refine L_v rfl rfl rfl (V_assign rfl rfl) ?_
            refine L_v rfl rfl rfl (V_assign rfl rfl) ?_
            refine L_v rfl rfl rfl (V_assign rfl rfl) ?_
            refine L_nil ?_
            change J _ _ _ _
            refine J_ret ?_
            change Kret _ _ _ Exit.ret _
            refine ret3 rfl rfl (RV_t rfl) (RV_t rfl) (RV_t rfl) ?_
            rw [if_neg (by omega), if_pos (by omega)] at hst
            exact fun w' h => ⟨by rw [hst], h.fr⟩
          ·
            first | (have h5 := of_decide_eq_true h5) | (have h5 := of_decide_eq_false h5) | skip
            refine J_skip ?_
            change J _ _ _ _
            refine J_seq ?_
            refine J_region ?_
            refine L_v rfl rfl rfl (V_move rfl rfl) ?_
            refine L_v rfl rfl rfl (V_move rfl rfl) ?_
            refine L_v rfl rfl rfl (V_add rfl rfl rfl (by first | exact Go.IntWalk.i64_in _ (by omega) | rfl)) ?_
            refine L_v rfl rfl rfl (V_assign rfl rfl) ?_
            refine L_v rfl rfl rfl (V_assign rfl rfl) ?_
            refine L_v rfl rfl rfl (V_assign rfl rfl) ?_
            refine L_nil ?_
            change J _ _ _ _
            refine J_ret ?_
            change Kret _ _ _ Exit.ret _
            refine ret3 rfl rfl (RV_t rfl) (RV_t rfl) (RV_t rfl) ?_
            rw [if_neg (by omega), if_neg (by omega)] at hst
            exact fun w' h => ⟨by rw [hst], h.fr⟩
  ·
    first | (have h1 := of_decide_eq_true h1) | (have h1 := of_decide_eq_false h1) | skip
    refine J_exit ?_
    change J _ _ _ _
    refine J_seq ?_
    refine J_region ?_
    refine L_v rfl rfl rfl (V_assign rfl rfl) ?_
    refine L_v rfl rfl rfl (V_assign rfl rfl) ?_
    refine L_v rfl rfl rfl (V_assign rfl rfl) ?_
    refine L_nil ?_
    change J _ _ _ _
    refine J_ret ?_
    change Kret _ _ _ Exit.ret _
    refine ret3 rfl rfl (RV_t rfl) (RV_t rfl) (RV_t rfl) ?_
    obtain rfl : i = 5 := by omega
    have := rcAt_out l x
    rw [hrc] at this
    exact fun w' h => ⟨by rw [this], h.fr⟩

theorem rcount_nil (w : World) :
    Calls Tryz.prog 95 #[.pointer none] w fun e w' => e = .returned (.tuple #[.int .i64 0, .int .i64 3]) ∧ Fr [] w w' := by
  refine calls_of (args := [.pointer none]) ([]) ([]) ([]) Tryz.func95 rfl rfl (okW0 _ _ _ _) ?_
  refine J_seq ?_
  refine J_region ?_
  refine L_v rfl rfl rfl (V_assign rfl rfl) ?_
  refine L_v rfl rfl rfl (V_assign rfl rfl) ?_
  refine L_nil ?_
  change J _ _ _ _
  refine J_seq ?_
  refine J_region ?_
  refine L_v rfl rfl rfl (V_move rfl rfl) ?_
  refine L_callV rfl rfl rfl rfl rfl rfl tx116r (fun w _ => peek_nil w) ?_
  refine L_v rfl rfl rfl (V_move rfl rfl) ?_
  refine L_v rfl rfl rfl (V_extract rfl rfl rfl) ?_
  refine L_v rfl rfl rfl (V_extract rfl rfl rfl) ?_
  refine L_v rfl rfl rfl (V_extract rfl rfl rfl) ?_
  refine L_v rfl rfl rfl (V_assign rfl rfl) ?_
  refine L_v rfl rfl rfl (V_assign rfl rfl) ?_
  refine L_v rfl rfl rfl (V_assign rfl rfl) ?_
  refine L_nil ?_
  change J _ _ _ _
  refine J_seq ?_
  refine J_seq ?_
  refine J_region ?_
  refine L_v rfl rfl rfl (V_move rfl rfl) ?_
  refine L_v rfl rfl rfl (V_eql rfl rfl rfl (by first | exact decide_eq_true (by omega) | exact decide_eq_false (by omega) | rfl)) ?_
  refine L_nil ?_
  change J _ _ _ _
  refine J_false rfl ?_
  refine J_skip ?_
  change J _ _ _ _
  refine J_seq ?_
  refine J_region ?_
  refine L_v rfl rfl rfl (V_move rfl rfl) ?_
  refine L_v rfl rfl rfl (V_move rfl rfl) ?_
  refine L_v rfl rfl rfl (V_assign rfl rfl) ?_
  refine L_v rfl rfl rfl (V_assign rfl rfl) ?_
  refine L_nil ?_
  change J _ _ _ _
  refine J_ret ?_
  change Kret _ _ _ Exit.ret _
  refine ret2 rfl rfl (RV_t rfl) (RV_t rfl) ?_
  exact fun w' h => ⟨rfl, h.fr⟩

theorem rbytes_nil (w : World) :
    Calls Tryz.prog 97 #[.pointer none] w fun e w' => e = .returned (.tuple #[.string ⟨#[]⟩, .int .i64 3]) ∧ Fr [] w w' := by
  refine calls_of (args := [.pointer none]) ([]) ([]) ([]) Tryz.func97 rfl rfl (okW0 _ _ _ _) ?_
  refine J_seq ?_
  refine J_region ?_
  refine L_v rfl rfl rfl (V_assign rfl rfl) ?_
  refine L_v rfl rfl rfl (V_assign rfl rfl) ?_
  refine L_nil ?_
  change J _ _ _ _
  refine J_seq ?_
  refine J_region ?_
  refine L_v rfl rfl rfl (V_move rfl rfl) ?_
  refine L_callV rfl rfl rfl rfl rfl rfl tx116r (fun w _ => peek_nil w) ?_
  refine L_v rfl rfl rfl (V_move rfl rfl) ?_
  refine L_v rfl rfl rfl (V_extract rfl rfl rfl) ?_
  refine L_v rfl rfl rfl (V_extract rfl rfl rfl) ?_
  refine L_v rfl rfl rfl (V_extract rfl rfl rfl) ?_
  refine L_v rfl rfl rfl (V_assign rfl rfl) ?_
  refine L_v rfl rfl rfl (V_assign rfl rfl) ?_
  refine L_v rfl rfl rfl (V_assign rfl rfl) ?_
  refine L_nil ?_
  change J _ _ _ _
  refine J_seq ?_
  refine J_block ?_
  refine J_seq ?_
  refine J_region ?_
  refine L_v rfl rfl rfl (V_move rfl rfl) ?_
  refine L_v rfl rfl rfl (V_neq rfl rfl rfl (by first | exact decide_eq_true (by omega) | exact decide_eq_false (by omega) | rfl)) ?_
  refine L_v rfl rfl rfl (V_assign rfl rfl) ?_
  refine L_nil ?_
  change J _ _ _ _
  refine J_true rfl ?_
  refine J_seq ?_
  refine J_region ?_
  refine L_v rfl rfl rfl (V_move rfl rfl) ?_
  refine L_v rfl rfl rfl (V_assign rfl rfl) ?_
  refine L_v rfl rfl rfl (V_assign rfl rfl) ?_
  refine L_nil ?_
  change J _ _ _ _
  refine J_ret ?_
  change Kret _ _ _ Exit.ret _
  refine ret2 rfl rfl (RV_t rfl) (RV_t rfl) ?_
  exact fun w' h => ⟨rfl, h.fr⟩

theorem rdigest_nil (w : World) :
    Calls Tryz.prog 99 #[.pointer none] w fun e w' => e = .returned (.tuple #[.agg (dg zd).toArray, .int .i64 3]) ∧ Fr [] w w' := by
  refine calls_of (args := [.pointer none]) ([]) ([]) ([]) Tryz.func99 rfl rfl (okW0 _ _ _ _) ?_
  refine J_seq ?_
  refine J_region ?_
  refine L_alloc rfl rfl rfl rfl z25r (fun b0 => ?_)
  refine L_v rfl rfl rfl (V_assign rfl rfl) ?_
  refine L_nil ?_
  change J _ _ _ _
  refine J_seq ?_
  refine J_region ?_
  refine L_alloc rfl rfl rfl rfl z25r (fun b1 => ?_)
  refine L_nil ?_
  change J _ _ _ _
  refine J_seq ?_
  refine J_block ?_
  refine J_seq ?_
  refine J_region ?_
  refine L_v rfl rfl rfl (V_move rfl rfl) ?_
  refine L_v rfl rfl rfl (V_eqP rfl rfl rfl Tryz.underlying110 rfl) ?_
  refine L_v rfl rfl rfl (V_assign rfl rfl) ?_
  refine L_nil ?_
  change J _ _ _ _
  refine J_true rfl ?_
  refine J_seq ?_
  refine J_region ?_
  refine L_v rfl rfl rfl (V_loadW 1 rfl rfl rfl Tryz.underlying25 rfl (szd sz25r (by simp [dg_length, zd_length, *]))) ?_
  refine L_storeW 0 rfl rfl rfl rfl rfl rfl (szd sz25r (by simp [dg_length, zd_length, *])) (dg_one _) (by simp [dg_length, zd_length, *]) ?_
  refine L_v rfl rfl rfl (V_assign rfl rfl) ?_
  refine L_nil ?_
  change J _ _ _ _
  refine J_ret ?_
  change Kret _ _ _ Exit.ret _
  refine ret2 rfl rfl (RV_c 0 rfl rfl Tryz.underlying25 rfl (szd sz25r (by simp [dg_length, zd_length, *]))) (RV_t rfl) ?_
  exact fun w' h => ⟨rfl, h.fr⟩

theorem rcount_w (b : Nat) (a : Option Addr) (n c : Nat) (l : List Int) (w : World) (hb : w.heap[b]? = some (row 139 [.slice a n c])) (hu : SlB w (.slice a n c) l) (hby : Byt l) (hcn : n ≤ c) (hn : n ≤ 1099511627776) :
    Calls Tryz.prog 95 #[.pointer (some ⟨b, 0, none⟩)] w fun e w' => ∃ a' n' c', e = .returned (.tuple #[.int .i64 (rc l).1, .int .i64 (rc l).2.2]) ∧ Fr [b] w w' ∧ w'.heap[b]? = some (row 139 [.slice a' n' c']) ∧ n' ≤ c' ∧ ∀ W, SlB W (.slice a n c) l → SlB W (.slice a' n' c') (l.drop (rc l).2.1.toNat) := by
  have hl := hu.size
  refine calls_of (args := [.pointer (some ⟨b, 0, none⟩)]) ([b]) ([(b, row 139 [.slice a n c])]) ([factB (.slice a n c) l]) Tryz.func95 rfl rfl (okR hb hu) ?_
  refine J_seq ?_
  refine J_region ?_
  refine L_v rfl rfl rfl (V_assign rfl rfl) ?_
  refine L_v rfl rfl rfl (V_assign rfl rfl) ?_
  refine L_nil ?_
  change J _ _ _ _
  refine J_seq ?_
  refine J_region ?_
  refine L_v rfl rfl rfl (V_move rfl rfl) ?_
  refine L_callV rfl rfl rfl rfl rfl rfl tx116r (fun w hw => peek_w b a n c l w (hw.at (i := 0) rfl) (fB hw 0 rfl) hby hcn hn) ?_
  refine L_v rfl rfl rfl (V_move rfl rfl) ?_
  refine L_v rfl rfl rfl (V_extract rfl rfl rfl) ?_
  refine L_v rfl rfl rfl (V_extract rfl rfl rfl) ?_
  refine L_v rfl rfl rfl (V_extract rfl rfl rfl) ?_
  refine L_v rfl rfl rfl (V_assign rfl rfl) ?_
  refine L_v rfl rfl rfl (V_assign rfl rfl) ?_
  refine L_v rfl rfl rfl (V_assign rfl rfl) ?_
  refine L_nil ?_
  change J _ _ _ _
  refine J_seq ?_
  refine J_seq ?_
  refine J_region ?_
  refine L_v rfl rfl rfl (V_move rfl rfl) ?_
  refine L_v rfl rfl rfl (V_eql rfl rfl rfl (by first | exact decide_eq_true (by omega) | exact decide_eq_false (by omega) | rfl)) ?_
  refine L_nil ?_
  change J _ _ _ _
  refine J_cond rfl (fun h1 => ?_) (fun h1 => ?_)
  ·
    first | (have h1 := of_decide_eq_true h1) | (have h1 := of_decide_eq_false h1) | skip
    obtain ⟨_, _, _, k, hk0, hk1, hk2, hk3⟩ | ⟨hk, _, _⟩ := rc_ok hby
    rotate_left
    · exact absurd h1 hk
    refine J_region ?_
    refine L_v rfl rfl rfl (V_move rfl rfl) ?_
    refine L_v rfl rfl rfl (V_move rfl rfl) ?_
    refine L_v rfl rfl rfl (V_nilCheck rfl rfl) ?_
    refine L_v rfl rfl rfl (V_fieldAddr rfl rfl Tryz.underlying139 rfl sz22r rfl) ?_
    refine L_v rfl rfl rfl (V_load1 0 rfl rfl rfl Tryz.underlying22 rfl (by first | rfl | exact dg_get (by omega) (by omega))) ?_
    refine L_v rfl rfl rfl (V_move rfl rfl) ?_
    refine L_v rfl rfl rfl (V_sliceS rfl rfl Tryz.underlying22 sz5r (Bd.at (v := k) rfl hk3) rfl rfl rfl (by first | omega | (simp; omega)) (by first | omega | (simp; omega)) (by first | omega | (simp; omega)) rfl) ?_
    refine L_v rfl rfl rfl (V_nilCheck rfl rfl) ?_
    refine L_v rfl rfl rfl (V_fieldAddr rfl rfl Tryz.underlying139 rfl sz22r rfl) ?_
    refine L_store1 0 rfl rfl rfl rfl rfl rfl rfl sz22r (by first | exact Nat.zero_lt_succ _ | (simp only [dg_length, List.length_append, List.length_take, List.length_drop, zd_length]; omega) | omega) (by first | rfl | exact dg_set _ _ _) ?_
    refine L_nil ?_
    change J _ _ _ _
    refine J_seq ?_
    refine J_region ?_
    refine L_v rfl rfl rfl (V_move rfl rfl) ?_
    refine L_v rfl rfl rfl (V_move rfl rfl) ?_
    refine L_v rfl rfl rfl (V_assign rfl rfl) ?_
    refine L_v rfl rfl rfl (V_assign rfl rfl) ?_
    refine L_nil ?_
    change J _ _ _ _
    refine J_ret ?_
    change Kret _ _ _ Exit.ret _
    refine ret2 rfl rfl (RV_t rfl) (RV_t rfl) ?_
    exact fun w' h => ⟨_, _, _, rfl, h.fr, h.at (i := 0) rfl, by omega, fun W hW => by
      rw [hk3, Int.toNat_natCast]
      have := hW.part (l := k) (hh := n) (m := c) (by omega) (Nat.le_refl _) hcn
      rwa [List.take_of_length_le (by rw [List.length_drop]; omega)] at this⟩
  ·
    first | (have h1 := of_decide_eq_true h1) | (have h1 := of_decide_eq_false h1) | skip
    refine J_skip ?_
    change J _ _ _ _
    refine J_seq ?_
    refine J_region ?_
    refine L_v rfl rfl rfl (V_move rfl rfl) ?_
    refine L_v rfl rfl rfl (V_move rfl rfl) ?_
    refine L_v rfl rfl rfl (V_assign rfl rfl) ?_
    refine L_v rfl rfl rfl (V_assign rfl rfl) ?_
    refine L_nil ?_
    change J _ _ _ _
    refine J_ret ?_
    change Kret _ _ _ Exit.ret _
    refine ret2 rfl rfl (RV_t rfl) (RV_t rfl) ?_
    obtain ⟨hk, _, _⟩ | ⟨_, hk1, hk2⟩ := rc_ok hby
    · exact absurd hk h1
    exact fun w' h => ⟨a, n, c, rfl, h.fr, h.at (i := 0) rfl, hcn, fun W hW => by rw [hk2]; exact hW⟩

theorem rbytes_w (b : Nat) (a : Option Addr) (n c : Nat) (l : List Int) (w : World) (hb : w.heap[b]? = some (row 139 [.slice a n c])) (hu : SlB w (.slice a n c) l) (hby : Byt l) (hcn : n ≤ c) (hn : n ≤ 1099511627776) :
    Calls Tryz.prog 97 #[.pointer (some ⟨b, 0, none⟩)] w fun e w' => ∃ a' n' c', e = .returned (.tuple #[.string (ba (rb l).1), .int .i64 (rb l).2.2]) ∧ Fr [b] w w' ∧ w'.heap[b]? = some (row 139 [.slice a' n' c']) ∧ n' ≤ c' ∧ ∀ W, SlB W (.slice a n c) l → SlB W (.slice a' n' c') (l.drop (rb l).2.1.toNat) := by
  have hl := hu.size
  refine calls_of (args := [.pointer (some ⟨b, 0, none⟩)]) ([b]) ([(b, row 139 [.slice a n c])]) ([factB (.slice a n c) l]) Tryz.func97 rfl rfl (okR hb hu) ?_
  refine J_seq ?_
  refine J_region ?_
  refine L_v rfl rfl rfl (V_assign rfl rfl) ?_
  refine L_v rfl rfl rfl (V_assign rfl rfl) ?_
  refine L_nil ?_
  change J _ _ _ _
  refine J_seq ?_
  refine J_region ?_
  refine L_v rfl rfl rfl (V_move rfl rfl) ?_
  refine L_callV rfl rfl rfl rfl rfl rfl tx116r (fun w hw => peek_w b a n c l w (hw.at (i := 0) rfl) (fB hw 0 rfl) hby hcn hn) ?_
  refine L_v rfl rfl rfl (V_move rfl rfl) ?_
  refine L_v rfl rfl rfl (V_extract rfl rfl rfl) ?_
  refine L_v rfl rfl rfl (V_extract rfl rfl rfl) ?_
  refine L_v rfl rfl rfl (V_extract rfl rfl rfl) ?_
  refine L_v rfl rfl rfl (V_assign rfl rfl) ?_
  refine L_v rfl rfl rfl (V_assign rfl rfl) ?_
  refine L_v rfl rfl rfl (V_assign rfl rfl) ?_
  refine L_nil ?_
  change J _ _ _ _
  refine J_seq ?_
  refine J_block ?_
  refine J_seq ?_
  refine J_region ?_
  refine L_v rfl rfl rfl (V_move rfl rfl) ?_
  refine L_v rfl rfl rfl (V_neq rfl rfl rfl (by first | exact decide_eq_true (by omega) | exact decide_eq_false (by omega) | rfl)) ?_
  refine L_v rfl rfl rfl (V_assign rfl rfl) ?_
  refine L_nil ?_
  change J _ _ _ _
  refine J_cond rfl (fun h1 => ?_) (fun h1 => ?_)
  ·
    first | (have h1 := of_decide_eq_true h1) | (have h1 := of_decide_eq_false h1) | skip
    refine J_seq ?_
    refine J_region ?_
    refine L_v rfl rfl rfl (V_move rfl rfl) ?_
    refine L_v rfl rfl rfl (V_assign rfl rfl) ?_
    refine L_v rfl rfl rfl (V_assign rfl rfl) ?_
    refine L_nil ?_
    change J _ _ _ _
    refine J_ret ?_
    change Kret _ _ _ Exit.ret _
    refine ret2 rfl rfl (RV_t rfl) (RV_t rfl) ?_
    exact fun w' h => ⟨a, n, c, by rw [rb, if_pos h1]; rfl, h.fr, h.at (i := 0) rfl, hcn, fun W hW => by rw [rb, if_pos h1]; exact hW⟩
  ·
    first | (have h1 := of_decide_eq_true h1) | (have h1 := of_decide_eq_false h1) | skip
    have h1 : (rc l).2.2 = 0 := Classical.not_not.1 h1
    obtain ⟨_, hm0, hm1, k, hk0, hk1, hk2, hk3⟩ | ⟨hk, _, _⟩ := rc_ok hby
    rotate_left
    · exact absurd h1 hk
    refine J_seq ?_
    refine J_region ?_
    refine L_v rfl rfl rfl (V_move rfl rfl) ?_
    refine L_v rfl rfl rfl (V_gtr rfl rfl rfl (by first | exact decide_eq_true (by omega) | exact decide_eq_false (by omega) | rfl)) ?_
    refine L_v rfl rfl rfl (V_assign rfl rfl) ?_
    refine L_nil ?_
    change J _ _ _ _
    refine J_cond rfl (fun h2 => ?_) (fun h2 => ?_)
    ·
      first | (have h2 := of_decide_eq_true h2) | (have h2 := of_decide_eq_false h2) | skip
      refine J_seq ?_
      refine J_region ?_
      refine L_v rfl rfl rfl (V_assign rfl rfl) ?_
      refine L_v rfl rfl rfl (V_assign rfl rfl) ?_
      refine L_nil ?_
      change J _ _ _ _
      refine J_ret ?_
      change Kret _ _ _ Exit.ret _
      refine ret2 rfl rfl (RV_t rfl) (RV_t rfl) ?_
      have e1 : rb l = ([], 0, 11) := by rw [rb, if_neg (fun h => h h1), if_pos h2]
      exact fun w' h => ⟨a, n, c, by rw [e1]; rfl, h.fr, h.at (i := 0) rfl, hcn, fun W hW => by rw [e1]; exact hW⟩
    ·
      first | (have h2 := of_decide_eq_true h2) | (have h2 := of_decide_eq_false h2) | skip
      refine J_seq ?_
      refine J_region ?_
      refine L_v rfl rfl rfl (V_move rfl rfl) ?_
      refine L_v rfl rfl rfl (V_move rfl rfl) ?_
      refine L_v rfl rfl rfl (V_nilCheck rfl rfl) ?_
      refine L_v rfl rfl rfl (V_fieldAddr rfl rfl Tryz.underlying139 rfl sz22r rfl) ?_
      refine L_v rfl rfl rfl (V_load1 0 rfl rfl rfl Tryz.underlying22 rfl (by first | rfl | exact dg_get (by omega) (by omega))) ?_
      refine L_v rfl rfl rfl (V_len rfl rfl Tryz.underlying22 rfl) ?_
      refine L_v rfl rfl rfl (V_move rfl rfl) ?_
      refine L_v rfl rfl rfl (V_sub rfl rfl rfl (by first | exact Go.IntWalk.i64_in _ (by omega) | rfl)) ?_
      refine L_v rfl rfl rfl (V_gtr rfl rfl rfl (by first | exact decide_eq_true (by omega) | exact decide_eq_false (by omega) | rfl)) ?_
      refine L_v rfl rfl rfl (V_assign rfl rfl) ?_
      refine L_nil ?_
      change J _ _ _ _
      refine J_cond rfl (fun h3 => ?_) (fun h3 => ?_)
      ·
        first | (have h3 := of_decide_eq_true h3) | (have h3 := of_decide_eq_false h3) | skip
        refine J_seq ?_
        refine J_region ?_
        refine L_v rfl rfl rfl (V_assign rfl rfl) ?_
        refine L_v rfl rfl rfl (V_assign rfl rfl) ?_
        refine L_nil ?_
        change J _ _ _ _
        refine J_ret ?_
        change Kret _ _ _ Exit.ret _
        refine ret2 rfl rfl (RV_t rfl) (RV_t rfl) ?_
        have e1 : rb l = ([], 0, 10) := by rw [rb, if_neg (fun h => h h1), if_neg h2, if_pos (by omega)]
        exact fun w' h => ⟨a, n, c, by rw [e1]; rfl, h.fr, h.at (i := 0) rfl, hcn, fun W hW => by rw [e1]; exact hW⟩
      ·
        first | (have h3 := of_decide_eq_true h3) | (have h3 := of_decide_eq_false h3) | skip
        obtain ⟨j, hj⟩ : ∃ j : Nat, (rc l).1 = j := ⟨(rc l).1.toNat, by omega⟩
        have e1 : rb l = ((l.drop k).take j, (k : Int) + j, 0) := by
          rw [rb, if_neg (fun h => h h1), if_neg h2, if_neg (by omega), hk3, hj, Int.toNat_natCast, Int.toNat_natCast]
        refine J_skip ?_
        change J _ _ _ _
        refine J_seq ?_
        refine J_region ?_
        refine L_v rfl rfl rfl (V_move rfl rfl) ?_
        refine L_v rfl rfl rfl (V_nilCheck rfl rfl) ?_
        refine L_v rfl rfl rfl (V_fieldAddr rfl rfl Tryz.underlying139 rfl sz22r rfl) ?_
        refine L_v rfl rfl rfl (V_load1 0 rfl rfl rfl Tryz.underlying22 rfl (by first | rfl | exact dg_get (by omega) (by omega))) ?_
        refine L_v rfl rfl rfl (V_move rfl rfl) ?_
        refine L_v rfl rfl rfl (V_move rfl rfl) ?_
        refine L_v rfl rfl rfl (V_move rfl rfl) ?_
        refine L_v rfl rfl rfl (V_add rfl rfl rfl (by first | exact Go.IntWalk.i64_in _ (by omega) | rfl)) ?_
        refine L_v rfl rfl rfl (V_sliceS rfl rfl Tryz.underlying22 sz5r (Bd.at (v := k) rfl hk3) (Bd.at (v := k + j) rfl (by omega)) rfl rfl (by first | omega | (simp; omega)) (by first | omega | (simp; omega)) (by first | omega | (simp; omega)) rfl) ?_
        refine L_v rfl rfl rfl (V_str rfl rfl Tryz.underlying22 Tryz.underlying5 Tryz.underlying9 (fun w hw => SlB.part (fB hw 0 rfl) (by first | omega | (simp; omega)) (by first | omega | (simp; omega)) (by first | omega | (simp; omega)))) ?_
        refine L_v rfl rfl rfl (V_assign rfl rfl) ?_
        refine L_nil ?_
        change J _ _ _ _
        refine J_seq ?_
        refine J_region ?_
        refine L_v rfl rfl rfl (V_move rfl rfl) ?_
        refine L_v rfl rfl rfl (V_move rfl rfl) ?_
        refine L_v rfl rfl rfl (V_nilCheck rfl rfl) ?_
        refine L_v rfl rfl rfl (V_fieldAddr rfl rfl Tryz.underlying139 rfl sz22r rfl) ?_
        refine L_v rfl rfl rfl (V_load1 0 rfl rfl rfl Tryz.underlying22 rfl (by first | rfl | exact dg_get (by omega) (by omega))) ?_
        refine L_v rfl rfl rfl (V_move rfl rfl) ?_
        refine L_v rfl rfl rfl (V_move rfl rfl) ?_
        refine L_v rfl rfl rfl (V_add rfl rfl rfl (by first | exact Go.IntWalk.i64_in _ (by omega) | rfl)) ?_
        refine L_v rfl rfl rfl (V_sliceS rfl rfl Tryz.underlying22 sz5r (Bd.at (v := k + j) rfl (by omega)) rfl rfl rfl (by first | omega | (simp; omega)) (by first | omega | (simp; omega)) (by first | omega | (simp; omega)) rfl) ?_
        refine L_v rfl rfl rfl (V_nilCheck rfl rfl) ?_
        refine L_v rfl rfl rfl (V_fieldAddr rfl rfl Tryz.underlying139 rfl sz22r rfl) ?_
        refine L_store1 0 rfl rfl rfl rfl rfl rfl rfl sz22r (by first | exact Nat.zero_lt_succ _ | (simp only [dg_length, List.length_append, List.length_take, List.length_drop, zd_length]; omega) | omega) (by first | rfl | exact dg_set _ _ _) ?_
        refine L_nil ?_
        change J _ _ _ _
        refine J_seq ?_
        refine J_region ?_
        refine L_v rfl rfl rfl (V_move rfl rfl) ?_
        refine L_v rfl rfl rfl (V_assign rfl rfl) ?_
        refine L_v rfl rfl rfl (V_assign rfl rfl) ?_
        refine L_nil ?_
        change J _ _ _ _
        refine J_ret ?_
        change Kret _ _ _ Exit.ret _
        refine ret2 rfl rfl (RV_t rfl) (RV_t rfl) ?_
        exact fun w' h => ⟨_, _, _, by rw [e1, show k + j - k = j by omega], h.fr, h.at (i := 0) rfl, by omega, fun W hW => by
          rw [e1]
          have := hW.part (l := k + j) (hh := n) (m := c) (by omega) (Nat.le_refl _) hcn
          rw [List.take_of_length_le (by rw [List.length_drop]; omega)] at this
          have e2 : ((k : Int) + j).toNat = k + j := by omega
          rw [e2]
          exact this⟩

theorem rdigest_w (b : Nat) (a : Option Addr) (n c : Nat) (l : List Int) (w : World) (hb : w.heap[b]? = some (row 139 [.slice a n c])) (hu : SlB w (.slice a n c) l) (hby : Byt l) (hcn : n ≤ c) (hn : n ≤ 1099511627776) :
    Calls Tryz.prog 99 #[.pointer (some ⟨b, 0, none⟩)] w fun e w' => ∃ a' n' c', e = .returned (.tuple #[.agg (dg (rd l).1).toArray, .int .i64 (rd l).2.2]) ∧ Fr [b] w w' ∧ w'.heap[b]? = some (row 139 [.slice a' n' c']) ∧ n' ≤ c' ∧ ∀ W, SlB W (.slice a n c) l → SlB W (.slice a' n' c') (l.drop (rd l).2.1.toNat) := by
  have hl := hu.size
  refine calls_of (args := [.pointer (some ⟨b, 0, none⟩)]) ([b]) ([(b, row 139 [.slice a n c])]) ([factB (.slice a n c) l]) Tryz.func99 rfl rfl (okR hb hu) ?_
  refine J_seq ?_
  refine J_region ?_
  refine L_alloc rfl rfl rfl rfl z25r (fun b1 => ?_)
  refine L_v rfl rfl rfl (V_assign rfl rfl) ?_
  refine L_nil ?_
  change J _ _ _ _
  refine J_seq ?_
  refine J_region ?_
  refine L_alloc rfl rfl rfl rfl z25r (fun b2 => ?_)
  refine L_nil ?_
  change J _ _ _ _
  refine J_seq ?_
  refine J_block ?_
  refine J_seq ?_
  refine J_region ?_
  refine L_v rfl rfl rfl (V_move rfl rfl) ?_
  refine L_v rfl rfl rfl (V_eqP rfl rfl rfl Tryz.underlying110 rfl) ?_
  refine L_v rfl rfl rfl (V_assign rfl rfl) ?_
  refine L_nil ?_
  change J _ _ _ _
  refine J_false rfl ?_
  refine J_seq ?_
  refine J_region ?_
  refine L_v rfl rfl rfl (V_move rfl rfl) ?_
  refine L_v rfl rfl rfl (V_nilCheck rfl rfl) ?_
  refine L_v rfl rfl rfl (V_fieldAddr rfl rfl Tryz.underlying139 rfl sz22r rfl) ?_
  refine L_v rfl rfl rfl (V_load1 0 rfl rfl rfl Tryz.underlying22 rfl (by first | rfl | exact dg_get (by omega) (by omega))) ?_
  refine L_v rfl rfl rfl (V_len rfl rfl Tryz.underlying22 rfl) ?_
  refine L_v rfl rfl rfl (V_lss rfl rfl rfl (by first | exact decide_eq_true (by omega) | exact decide_eq_false (by omega) | rfl)) ?_
  refine L_v rfl rfl rfl (V_assign rfl rfl) ?_
  refine L_nil ?_
  change J _ _ _ _
  refine J_cond rfl (fun h1 => ?_) (fun h1 => ?_)
  ·
    first | (have h1 := of_decide_eq_true h1) | (have h1 := of_decide_eq_false h1) | skip
    refine J_seq ?_
    refine J_region ?_
    refine L_v rfl rfl rfl (V_loadW 2 rfl rfl rfl Tryz.underlying25 rfl (szd sz25r (by simp [dg_length, zd_length, *]))) ?_
    refine L_storeW 1 rfl rfl rfl rfl rfl rfl (szd sz25r (by simp [dg_length, zd_length, *])) (dg_one _) (by simp [dg_length, zd_length, *]) ?_
    refine L_v rfl rfl rfl (V_assign rfl rfl) ?_
    refine L_nil ?_
    change J _ _ _ _
    refine J_ret ?_
    change Kret _ _ _ Exit.ret _
    refine ret2 rfl rfl (RV_c 1 rfl rfl Tryz.underlying25 rfl (szd sz25r (by simp [dg_length, zd_length, *]))) (RV_t rfl) ?_
    have e1 : rd l = (zd, 0, 10) := by rw [rd, if_pos (by omega)]
    exact fun w' h => ⟨a, n, c, by rw [e1], h.fr, h.at (i := 0) rfl, hcn, fun W hW => by rw [e1]; exact hW⟩
  ·
    first | (have h1 := of_decide_eq_true h1) | (have h1 := of_decide_eq_false h1) | skip
    have hl32 : (l.take 32).length = 32 := by rw [List.length_take]; omega
    refine J_skip ?_
    change J _ _ _ _
    refine J_seq ?_
    refine J_regionT 5 rfl (by kernel_rfl) ?_
    refine LQ_v rfl rfl rfl (V_sliceArr rfl rfl Tryz.underlying25 sz5r) ?_
    refine LQ_v rfl rfl rfl (V_move rfl rfl) ?_
    refine LQ_v rfl rfl rfl (V_nilCheck rfl rfl) ?_
    refine LQ_v rfl rfl rfl (V_fieldAddr rfl rfl Tryz.underlying139 rfl sz22r rfl) ?_
    refine LQ_v rfl rfl rfl (V_load1 0 rfl rfl rfl Tryz.underlying22 rfl (by first | rfl | exact dg_get (by omega) (by omega))) ?_
    refine LQ_nil ?_
    refine L_copyD 2 (dg (l.take 32)) rfl rfl rfl rfl rfl Tryz.underlying22 sz5r rfl (fun w hw => fB hw 0 rfl) (by simp [dg_length, zd_length]) (by rw [List.drop_eq_nil_of_le (by rw [dg_length, zd_length]; omega), List.take_zero, List.nil_append, List.append_nil]) ?_
    refine L_nil ?_
    change J _ _ _ _
    refine J_seq ?_
    refine J_region ?_
    refine L_v rfl rfl rfl (V_move rfl rfl) ?_
    refine L_v rfl rfl rfl (V_move rfl rfl) ?_
    refine L_v rfl rfl rfl (V_nilCheck rfl rfl) ?_
    refine L_v rfl rfl rfl (V_fieldAddr rfl rfl Tryz.underlying139 rfl sz22r rfl) ?_
    refine L_v rfl rfl rfl (V_load1 0 rfl rfl rfl Tryz.underlying22 rfl (by first | rfl | exact dg_get (by omega) (by omega))) ?_
    refine L_v rfl rfl rfl (V_sliceS rfl rfl Tryz.underlying22 sz5r (Bd.at (v := 32) rfl rfl) rfl rfl rfl (by first | omega | (simp; omega)) (by first | omega | (simp; omega)) (by first | omega | (simp; omega)) rfl) ?_
    refine L_v rfl rfl rfl (V_nilCheck rfl rfl) ?_
    refine L_v rfl rfl rfl (V_fieldAddr rfl rfl Tryz.underlying139 rfl sz22r rfl) ?_
    refine L_store1 0 rfl rfl rfl rfl rfl rfl rfl sz22r (by first | exact Nat.zero_lt_succ _ | (simp only [dg_length, List.length_append, List.length_take, List.length_drop, zd_length]; omega) | omega) (by first | rfl | exact dg_set _ _ _) ?_
    refine L_nil ?_
    change J _ _ _ _
    refine J_seq ?_
    refine J_region ?_
    refine L_v rfl rfl rfl (V_loadW 2 rfl rfl rfl Tryz.underlying25 rfl (szd sz25r (by simp [dg_length, zd_length, *]))) ?_
    refine L_storeW 1 rfl rfl rfl rfl rfl rfl (szd sz25r (by simp [dg_length, zd_length, *])) (dg_one _) (by simp [dg_length, zd_length, *]) ?_
    refine L_v rfl rfl rfl (V_assign rfl rfl) ?_
    refine L_nil ?_
    change J _ _ _ _
    refine J_ret ?_
    change Kret _ _ _ Exit.ret _
    refine ret2 rfl rfl (RV_c 1 rfl rfl Tryz.underlying25 rfl (szd sz25r (by simp [dg_length, zd_length, *]))) (RV_t rfl) ?_
    have e1 : rd l = (l.take 32, 32, 0) := by rw [rd, if_neg (by omega)]
    exact fun w' h => ⟨_, _, _, by rw [e1], h.fr, h.at (i := 0) rfl, by omega, fun W hW => by
      rw [e1]
      have := hW.part (l := 32) (hh := n) (m := c) (by omega) (Nat.le_refl _) hcn
      rw [List.take_of_length_le (by rw [List.length_drop]; omega)] at this
      exact this⟩

theorem readBytes_w (a : Option Addr) (n c : Nat) (l : List Int) (w : World) (hu : SlB w (.slice a n c) l) (hby : Byt l) (hcn : n ≤ c) (hn : n ≤ 1099511627776) :
    Calls Tryz.prog 102 #[.slice a n c] w fun e w' => e = .returned (.tuple #[.string (ba (rb l).1), .int .i64 (rb l).2.1, .int .i64 (rb l).2.2]) ∧ Fr [] w w' := by
  have hl := hu.size
  refine calls_of (args := [.slice a n c]) ([]) ([]) ([]) Tryz.func102 rfl rfl (okW0 _ _ _ _) ?_
  refine J_seq ?_
  refine J_region ?_
  refine L_v rfl rfl rfl (V_assign rfl rfl) ?_
  refine L_v rfl rfl rfl (V_assign rfl rfl) ?_
  refine L_v rfl rfl rfl (V_assign rfl rfl) ?_
  refine L_nil ?_
  change J _ _ _ _
  refine J_seq ?_
  refine J_region ?_
  refine L_v rfl rfl rfl (V_move rfl rfl) ?_
  refine L_callV rfl rfl rfl rfl rfl rfl tx100r (fun w hw => readCount_w a n c l w (SlB.later hw rfl hu) hby hcn hn) ?_
  refine L_v rfl rfl rfl (V_move rfl rfl) ?_
  refine L_v rfl rfl rfl (V_extract rfl rfl rfl) ?_
  refine L_v rfl rfl rfl (V_extract rfl rfl rfl) ?_
  refine L_v rfl rfl rfl (V_extract rfl rfl rfl) ?_
  refine L_v rfl rfl rfl (V_assign rfl rfl) ?_
  refine L_v rfl rfl rfl (V_assign rfl rfl) ?_
  refine L_v rfl rfl rfl (V_assign rfl rfl) ?_
  refine L_nil ?_
  change J _ _ _ _
  refine J_seq ?_
  refine J_seq ?_
  refine J_region ?_
  refine L_v rfl rfl rfl (V_move rfl rfl) ?_
  refine L_v rfl rfl rfl (V_neq rfl rfl rfl (by first | exact decide_eq_true (by omega) | exact decide_eq_false (by omega) | rfl)) ?_
  refine L_nil ?_
  change J _ _ _ _
  refine J_cond rfl (fun h1 => ?_) (fun h1 => ?_)
  ·
    first | (have h1 := of_decide_eq_true h1) | (have h1 := of_decide_eq_false h1) | skip
    refine J_seq ?_
    refine J_region ?_
    refine L_v rfl rfl rfl (V_move rfl rfl) ?_
    refine L_v rfl rfl rfl (V_assign rfl rfl) ?_
    refine L_v rfl rfl rfl (V_assign rfl rfl) ?_
    refine L_v rfl rfl rfl (V_assign rfl rfl) ?_
    refine L_nil ?_
    change J _ _ _ _
    refine J_ret ?_
    change Kret _ _ _ Exit.ret _
    refine ret3 rfl rfl (RV_t rfl) (RV_t rfl) (RV_t rfl) ?_
    exact fun w' h => ⟨by rw [rb, if_pos h1]; rfl, h.fr⟩
  ·
    first | (have h1 := of_decide_eq_true h1) | (have h1 := of_decide_eq_false h1) | skip
    have h1 : (rc l).2.2 = 0 := Classical.not_not.1 h1
    obtain ⟨_, hm0, hm1, k, hk0, hk1, hk2, hk3⟩ | ⟨hk, _, _⟩ := rc_ok hby
    rotate_left
    · exact absurd h1 hk
    refine J_skip ?_
    change J _ _ _ _
    refine J_seq ?_
    refine J_seq ?_
    refine J_region ?_
    refine L_v rfl rfl rfl (V_move rfl rfl) ?_
    refine L_v rfl rfl rfl (V_gtr rfl rfl rfl (by first | exact decide_eq_true (by omega) | exact decide_eq_false (by omega) | rfl)) ?_
    refine L_nil ?_
    change J _ _ _ _
    refine J_cond rfl (fun h2 => ?_) (fun h2 => ?_)
    ·
      first | (have h2 := of_decide_eq_true h2) | (have h2 := of_decide_eq_false h2) | skip
      refine J_seq ?_
      refine J_region ?_
      refine L_v rfl rfl rfl (V_assign rfl rfl) ?_
      refine L_v rfl rfl rfl (V_assign rfl rfl) ?_
      refine L_v rfl rfl rfl (V_assign rfl rfl) ?_
      refine L_nil ?_
      change J _ _ _ _
      refine J_ret ?_
      change Kret _ _ _ Exit.ret _
      refine ret3 rfl rfl (RV_t rfl) (RV_t rfl) (RV_t rfl) ?_
      have e1 : rb l = ([], 0, 11) := by rw [rb, if_neg (fun h => h h1), if_pos h2]
      exact fun w' h => ⟨by rw [e1]; rfl, h.fr⟩
    ·
      first | (have h2 := of_decide_eq_true h2) | (have h2 := of_decide_eq_false h2) | skip
      refine J_skip ?_
      change J _ _ _ _
      refine J_seq ?_
      refine J_seq ?_
      refine J_region ?_
      refine L_v rfl rfl rfl (V_move rfl rfl) ?_
      refine L_v rfl rfl rfl (V_move rfl rfl) ?_
      refine L_v rfl rfl rfl (V_len rfl rfl Tryz.underlying22 rfl) ?_
      refine L_v rfl rfl rfl (V_move rfl rfl) ?_
      refine L_v rfl rfl rfl (V_sub rfl rfl rfl (by first | exact Go.IntWalk.i64_in _ (by omega) | rfl)) ?_
      refine L_v rfl rfl rfl (V_gtr rfl rfl rfl (by first | exact decide_eq_true (by omega) | exact decide_eq_false (by omega) | rfl)) ?_
      refine L_nil ?_
      change J _ _ _ _
      refine J_cond rfl (fun h3 => ?_) (fun h3 => ?_)
      ·
        first | (have h3 := of_decide_eq_true h3) | (have h3 := of_decide_eq_false h3) | skip
        refine J_seq ?_
        refine J_region ?_
        refine L_v rfl rfl rfl (V_assign rfl rfl) ?_
        refine L_v rfl rfl rfl (V_assign rfl rfl) ?_
        refine L_v rfl rfl rfl (V_assign rfl rfl) ?_
        refine L_nil ?_
        change J _ _ _ _
        refine J_ret ?_
        change Kret _ _ _ Exit.ret _
        refine ret3 rfl rfl (RV_t rfl) (RV_t rfl) (RV_t rfl) ?_
        have e1 : rb l = ([], 0, 10) := by rw [rb, if_neg (fun h => h h1), if_neg h2, if_pos (by omega)]
        exact fun w' h => ⟨by rw [e1]; rfl, h.fr⟩
      ·
        first | (have h3 := of_decide_eq_true h3) | (have h3 := of_decide_eq_false h3) | skip
        obtain ⟨j, hj⟩ : ∃ j : Nat, (rc l).1 = j := ⟨(rc l).1.toNat, by omega⟩
        have e1 : rb l = ((l.drop k).take j, (k : Int) + j, 0) := by
          rw [rb, if_neg (fun h => h h1), if_neg h2, if_neg (by omega), hk3, hj, Int.toNat_natCast, Int.toNat_natCast]
        refine J_skip ?_
        change J _ _ _ _
        refine J_seq ?_
        refine J_region ?_
        refine L_v rfl rfl rfl (V_move rfl rfl) ?_
        refine L_v rfl rfl rfl (V_move rfl rfl) ?_
        refine L_v rfl rfl rfl (V_move rfl rfl) ?_
        refine L_v rfl rfl rfl (V_move rfl rfl) ?_
        refine L_v rfl rfl rfl (V_add rfl rfl rfl (by first | exact Go.IntWalk.i64_in _ (by omega) | rfl)) ?_
        refine L_v rfl rfl rfl (V_sliceS rfl rfl Tryz.underlying22 sz5r (Bd.at (v := k) rfl hk3) (Bd.at (v := k + j) rfl (by omega)) rfl rfl (by first | omega | (simp; omega)) (by first | omega | (simp; omega)) (by first | omega | (simp; omega)) rfl) ?_
        refine L_v rfl rfl rfl (V_str rfl rfl Tryz.underlying22 Tryz.underlying5 Tryz.underlying9 (fun w hw => SlB.part (SlB.later hw rfl hu) (by first | omega | (simp; omega)) (by first | omega | (simp; omega)) (by first | omega | (simp; omega)))) ?_
        refine L_v rfl rfl rfl (V_move rfl rfl) ?_
        refine L_v rfl rfl rfl (V_move rfl rfl) ?_
        refine L_v rfl rfl rfl (V_add rfl rfl rfl (by first | exact Go.IntWalk.i64_in _ (by omega) | rfl)) ?_
        refine L_v rfl rfl rfl (V_assign rfl rfl) ?_
        refine L_v rfl rfl rfl (V_assign rfl rfl) ?_
        refine L_v rfl rfl rfl (V_assign rfl rfl) ?_
        refine L_nil ?_
        change J _ _ _ _
        refine J_ret ?_
        change Kret _ _ _ Exit.ret _
        refine ret3 rfl rfl (RV_t rfl) (RV_t rfl) (RV_t rfl) ?_
        exact fun w' h => ⟨by rw [e1, hk3, hj, show k + j - k = j by omega], h.fr⟩

theorem readDigest_w (a : Option Addr) (n c : Nat) (l : List Int) (w : World) (hu : SlB w (.slice a n c) l) (hby : Byt l) (hcn : n ≤ c) (hn : n ≤ 1099511627776) :
    Calls Tryz.prog 103 #[.slice a n c] w fun e w' => e = .returned (.tuple #[.agg (dg (rd l).1).toArray, .int .i64 (rd l).2.1, .int .i64 (rd l).2.2]) ∧ Fr [] w w' := by
  have hl := hu.size
  refine calls_of (args := [.slice a n c]) ([]) ([]) ([]) Tryz.func103 rfl rfl (okW0 _ _ _ _) ?_
  refine J_seq ?_
  refine J_region ?_
  refine L_alloc rfl rfl rfl rfl z25r (fun b0 => ?_)
  refine L_v rfl rfl rfl (V_assign rfl rfl) ?_
  refine L_v rfl rfl rfl (V_assign rfl rfl) ?_
  refine L_nil ?_
  change J _ _ _ _
  refine J_seq ?_
  refine J_region ?_
  refine L_alloc rfl rfl rfl rfl z25r (fun b1 => ?_)
  refine L_nil ?_
  change J _ _ _ _
  refine J_seq ?_
  refine J_seq ?_
  refine J_region ?_
  refine L_v rfl rfl rfl (V_move rfl rfl) ?_
  refine L_v rfl rfl rfl (V_len rfl rfl Tryz.underlying22 rfl) ?_
  refine L_v rfl rfl rfl (V_lss rfl rfl rfl (by first | exact decide_eq_true (by omega) | exact decide_eq_false (by omega) | rfl)) ?_
  refine L_nil ?_
  change J _ _ _ _
  refine J_cond rfl (fun h1 => ?_) (fun h1 => ?_)
  ·
    first | (have h1 := of_decide_eq_true h1) | (have h1 := of_decide_eq_false h1) | skip
    refine J_seq ?_
    refine J_region ?_
    refine L_v rfl rfl rfl (V_loadW 1 rfl rfl rfl Tryz.underlying25 rfl (szd sz25r (by simp [dg_length, zd_length, *]))) ?_
    refine L_storeW 0 rfl rfl rfl rfl rfl rfl (szd sz25r (by simp [dg_length, zd_length, *])) (dg_one _) (by simp [dg_length, zd_length, *]) ?_
    refine L_v rfl rfl rfl (V_assign rfl rfl) ?_
    refine L_v rfl rfl rfl (V_assign rfl rfl) ?_
    refine L_nil ?_
    change J _ _ _ _
    refine J_ret ?_
    change Kret _ _ _ Exit.ret _
    refine ret3 rfl rfl (RV_c 0 rfl rfl Tryz.underlying25 rfl (szd sz25r (by simp [dg_length, zd_length, *]))) (RV_t rfl) (RV_t rfl) ?_
    have e1 : rd l = (zd, 0, 10) := by rw [rd, if_pos (by omega)]
    exact fun w' h => ⟨by rw [e1], h.fr⟩
  ·
    first | (have h1 := of_decide_eq_true h1) | (have h1 := of_decide_eq_false h1) | skip
    refine J_skip ?_
    change J _ _ _ _
    refine J_seq ?_
    refine J_seq ?_
    refine J_region ?_
    refine L_v rfl rfl rfl (V_assign rfl rfl) ?_
    refine L_nil ?_
    change J _ _ _ _
    refine J_block ?_
    refine J_loop (X := Nat) (fun k => { env := [(0, .slice a n c), (2, .pointer (some ⟨b0, 0, none⟩)), (5, .pointer (some ⟨b1, 0, none⟩)), (6, .int .i64 (k : Int))], mem := [(b0, row 25 (dg zd)), (b1, row 25 (dg (l.take k ++ zd.drop k)))] }) (fun k => k ≤ 32) (fun k => 32 - k) 0 (Nat.zero_le _) ⟨⟨rfl, rfl, rfl, rfl, trivial⟩, List.Sublist.refl _, fun f hf => hf, rfl⟩ ?_
    rintro k hk
    refine J_seq ?_
    refine J_seq ?_
    refine J_region ?_
    refine L_v rfl rfl rfl (V_move rfl rfl) ?_
    refine L_v rfl rfl rfl (V_lss rfl rfl rfl (by first | exact decide_eq_true (by omega) | exact decide_eq_false (by omega) | rfl)) ?_
    refine L_nil ?_
    change J _ _ _ _
    refine J_cond rfl (fun h2 => ?_) (fun h2 => ?_)
    ·
      first | (have h2 := of_decide_eq_true h2) | (have h2 := of_decide_eq_false h2) | skip
      have hgd : l.getD ((k : Nat) : Int).toNat 0 = l.getD k 0 := by rw [Int.toNat_natCast]
      refine J_skip ?_
      change J _ _ _ _
      refine J_seq ?_
      refine J_block ?_
      refine J_region ?_
      refine L_v rfl rfl rfl (V_move rfl rfl) ?_
      refine L_v rfl rfl rfl (V_move rfl rfl) ?_
      refine L_v rfl rfl rfl (V_move rfl rfl) ?_
      refine L_v rfl rfl rfl (V_indexB rfl rfl rfl Tryz.underlying22 sz5r (fun w hw => SlB.later hw rfl hu) (by omega) (by omega)) ?_
      refine L_v rfl rfl rfl (V_loadB rfl rfl Tryz.underlying5 rfl (fun w hw => SlB.later hw rfl hu) (by omega) hgd) ?_
      refine L_v rfl rfl rfl (V_indexArr rfl rfl rfl Tryz.underlying25 sz5r (by omega) (by omega) (by first | exact ix0 _ | exact ix1 _ _ | rfl)) ?_
      refine L_store1 1 rfl rfl rfl rfl rfl rfl rfl sz5r (by first | exact Nat.zero_lt_succ _ | (simp only [dg_length, List.length_append, List.length_take, List.length_drop, zd_length]; omega) | omega) (by first | rfl | exact dg_set _ _ _) ?_
      refine L_nil ?_
      change J _ _ _ _
      refine J_region ?_
      refine L_v rfl rfl rfl (V_move rfl rfl) ?_
      refine L_v rfl rfl rfl (V_add rfl rfl rfl (by first | exact Go.IntWalk.i64_in _ (by omega) | rfl)) ?_
      refine L_v rfl rfl rfl (V_assign rfl rfl) ?_
      refine L_nil ?_
      exact ⟨k + 1, by omega, by omega, ⟨rfl, rfl, rfl, rfl, trivial⟩, (by rw [Int.toNat_natCast, take_set (l := l) (k := k) (by omega) (by omega)]; exact List.Sublist.refl _), fun f hf => hf, rfl⟩
    ·
      first | (have h2 := of_decide_eq_true h2) | (have h2 := of_decide_eq_false h2) | skip
      obtain rfl : k = 32 := by omega
      have ez : zd.drop 32 = [] := rfl
      have e1 : rd l = (l.take 32, 32, 0) := by rw [rd, if_neg (by omega)]
      have hl32 : (l.take 32).length = 32 := by rw [List.length_take]; omega
      have hl33 : (dg (l.take 32 ++ zd.drop 32)).length = 32 := by rw [dg_length, ez, List.append_nil, hl32]
      refine J_exit ?_
      change J _ _ _ _
      refine J_seq ?_
      refine J_region ?_
      refine L_v rfl rfl rfl (V_loadW 1 rfl rfl rfl Tryz.underlying25 rfl (szd sz25r (by simp [dg_length, zd_length, *]))) ?_
      refine L_storeW 0 rfl rfl rfl rfl rfl rfl (szd sz25r (by simp [dg_length, zd_length, *])) (dg_one _) (by simp [dg_length, zd_length, *]) ?_
      refine L_v rfl rfl rfl (V_assign rfl rfl) ?_
      refine L_v rfl rfl rfl (V_assign rfl rfl) ?_
      refine L_nil ?_
      change J _ _ _ _
      refine J_ret ?_
      change Kret _ _ _ Exit.ret _
      refine ret3 rfl rfl (RV_c 0 rfl rfl Tryz.underlying25 rfl (szd sz25r (by simp [dg_length, zd_length, *]))) (RV_t rfl) (RV_t rfl) ?_
      exact fun w' h => ⟨by rw [e1, ez, List.append_nil], h.fr⟩

end Go.Proofs.YtfgcfjojpakpjaaGreat
