/- The entry that a snapshot tells of. -/
import Derived.Test.YtcdenfkbhefbbaaV3
import Derived.Test.YtcdenfkbhefbbaaV4
set_option linter.unusedVariables false
set_option linter.unusedSimpArgs false
set_option maxRecDepth 100000
namespace Go.Proofs.Ytcdenfkbhefbbaa
open Go.Sx
abbrev isS (x : Sn) (e : En) : Bool := decide (e.1 = x.1) && decide (e.2.1 = x.2.1)
/-- Where a snapshot's own entry lies. -/
def idxI (x : Sn) (es : List EnV) : Int := match es.findIdx? (fun p => isS x p.1) with | some i => i | none => -1
theorem idxI_some {x : Sn} {es : List EnV} {i : Nat} (hi : i < es.length) (hn : ∀ j, j < i → isS x (es.getD j env0).1 = false) (h : isS x (es.getD i env0).1 = true) : (i : Int) = idxI x es := by
  unfold idxI
  rw [List.findIdx?_eq_some_iff_getElem.2 ⟨hi, by rw [List.getD_eq_getElem?_getD, List.getElem?_eq_getElem hi] at h; exact h, fun j hj => by
    have h1 := hn j hj
    rw [List.getD_eq_getElem?_getD, List.getElem?_eq_getElem (by omega : j < es.length)] at h1
    simpa using h1⟩]
theorem idxI_none {x : Sn} {es : List EnV} (hn : ∀ j, j < es.length → isS x (es.getD j env0).1 = false) : (-1 : Int) = idxI x es := by
  unfold idxI
  rw [List.findIdx?_eq_none_iff.2 fun p hp => by
    obtain ⟨j, hj, rfl⟩ := List.mem_iff_getElem.1 hp
    have h1 := hn j hj
    rw [List.getD_eq_getElem?_getD, List.getElem?_eq_getElem hj] at h1
    exact h1]
theorem sz3s : (Try.prog.info? 3).map (·.size) = some 1 := by kernel_rfl
theorem sz39s : (Try.prog.info? 39).map (·.size) = some 43 := by kernel_rfl
theorem tx64s : Txt Try.prog 64 := txt_of Try.func64 rfl (by kernel_rfl)

theorem isS_w (e9 : En) (a b : Sp) (x : Sn) (c d : Sp) (g : Nat) (w : World) (hg : w.heap[g]? = some (row 26 (snX x c d))) :
    Calls Try.prog 64 #[.agg (enX e9 a b).toArray, .pointer (some ⟨g, 0, none⟩)] w fun e w' => e = .returned (.bool (isS x e9)) ∧ Fr [] w w' := by
  refine calls_of (args := [.agg (enX e9 a b).toArray, .pointer (some ⟨g, 0, none⟩)]) ([]) ([]) ([]) Try.func64 rfl rfl (okW0 _ _ _ _) ?_
  refine J_seq ?_
  refine J_region ?_
  refine L_box rfl rfl rfl rfl rfl (fun b0 => ?_)
  refine L_v rfl rfl rfl (V_assign rfl rfl) ?_
  refine L_nil ?_
  change J _ _ _ _
  refine J_seq ?_
  refine J_region ?_
  refine L_v rfl rfl rfl (V_fieldAddr rfl rfl Try.underlying39 rfl sz3s rfl) ?_
  refine L_v rfl rfl rfl (V_load1 0 rfl rfl rfl Try.underlying3 rfl (by rfl)) ?_
  refine L_v rfl rfl rfl (V_fieldAddr rfl rfl Try.underlying26 rfl sz3s rfl) ?_
  refine L_v rfl rfl rfl (V_loadF rfl rfl Try.underlying3 rfl (fun w hw => OkW.later hw rfl hg) rfl) ?_
  refine L_v rfl rfl rfl (V_eql rfl rfl rfl rfl) ?_
  refine L_v rfl rfl rfl (V_move rfl rfl) ?_
  apply L_and 5 9 15
  · rfl
  · rfl
  · rfl
  · rfl
  · rfl
  · rfl
  · rfl
  · kernel_rfl
  · intro hb1 _ _ hk1
    refine L_wv rfl rfl rfl rfl rfl rfl (V_fieldAddr rfl rfl Try.underlying39 rfl sz3s rfl) ?_
    refine L_wv rfl rfl rfl rfl rfl rfl (V_load1 0 rfl rfl rfl Try.underlying3 rfl (by rfl)) ?_
    refine L_wv rfl rfl rfl rfl rfl rfl (V_fieldAddr rfl rfl Try.underlying26 rfl sz3s rfl) ?_
    refine L_wv rfl rfl rfl rfl rfl rfl (V_loadF rfl rfl Try.underlying3 rfl (fun w hw => OkW.later hw rfl hg) rfl) ?_
    refine L_wv rfl rfl rfl rfl rfl rfl (V_eql rfl rfl rfl rfl) ?_
    exact hk1 _ ⟨rfl, rfl, rfl, rfl, ext_cut 5 (by kernel_rfl) (by kernel_rfl)⟩
  refine L_v rfl rfl rfl (V_assign rfl rfl) ?_
  refine L_nil ?_
  change J _ _ _ _
  refine J_ret ?_
  change Kret _ _ _ Exit.ret _
  refine ret1 rfl rfl (RV_t rfl) ?_
  exact fun w' h => ⟨rfl, h.fr⟩

theorem idx_w (es : List EnV) (s : Sp) (x : Sn) (c d : Sp) (g : Nat) (w : World) (f1 : FA w (factC 43 (.slice s.1 es.length s.2) es.length (es.map enW).flatten)) (hg : w.heap[g]? = some (row 26 (snX x c d))) (hB : es.length ≤ 549755813888) :
    Calls Try.prog 63 #[.slice s.1 es.length s.2, .func (.func 64) #[] #[.pointer (some ⟨g, 0, none⟩)]] w fun e w' => e = .returned (.int .i64 (idxI x es)) ∧ Fr [] w w' := by
  refine calls_of (args := [.slice s.1 es.length s.2, .func (.func 64) #[] #[.pointer (some ⟨g, 0, none⟩)]]) ([]) ([]) ([factC 43 (.slice s.1 es.length s.2) es.length (es.map enW).flatten]) Try.func63 rfl rfl (okFW (.cons f1 .nil)) ?_
  refine J_seq ?_
  refine J_region ?_
  refine L_v rfl rfl rfl (V_assign rfl rfl) ?_
  refine L_nil ?_
  change J _ _ _ _
  refine J_seq ?_
  refine J_seq ?_
  refine J_region ?_
  refine L_v rfl rfl rfl (V_move rfl rfl) ?_
  refine L_v rfl rfl rfl (V_len rfl rfl Try.underlying27 rfl) ?_
  refine L_v rfl rfl rfl (V_move rfl rfl) ?_
  refine L_nil ?_
  change J _ _ _ _
  refine J_block ?_
  refine J_loop (X := Nat) (fun i => { env := [(0, .slice s.1 es.length s.2), (1, .func (.func 64) #[] #[.pointer (some ⟨g, 0, none⟩)]), (7, .int .i64 (es.length : Int)), (8, .int .i64 (i : Int))], mem := [], facts := [factC 43 (.slice s.1 es.length s.2) es.length (es.map enW).flatten] }) (fun i => i ≤ es.length ∧ ∀ j, j < i → isS x (es.getD j env0).1 = false) (fun i => es.length - i) 0 ⟨Nat.zero_le _, fun j hj => absurd hj (Nat.not_lt_zero _)⟩ ⟨⟨rfl, rfl, rfl, rfl, trivial⟩, List.Sublist.refl _, fun f hf => hf, rfl⟩ ?_
  rintro i ⟨hin, hno⟩
  try simp only at hin hno ⊢
  refine J_seq ?_
  refine J_region ?_
  refine L_v rfl rfl rfl (V_lss rfl rfl rfl (by first | exact decide_eq_true (by omega) | exact decide_eq_false (by omega) | rfl)) ?_
  refine L_nil ?_
  change J _ _ _ _
  refine J_seq ?_
  refine J_cond rfl (fun h1 => ?_) (fun h1 => ?_)
  ·
    first | (have h1 := of_decide_eq_true h1) | (have h1 := of_decide_eq_false h1) | skip
    refine J_skip ?_
    change J _ _ _ _
    refine J_seq ?_
    refine J_block ?_
    refine J_seq ?_
    refine J_region ?_
    refine L_v rfl rfl rfl (V_move rfl rfl) ?_
    refine L_v rfl rfl rfl (V_assign rfl rfl) ?_
    refine L_nil ?_
    change J _ _ _ _
    refine J_seq ?_
    refine J_region ?_
    refine L_v rfl rfl rfl (V_move rfl rfl) ?_
    refine L_v rfl rfl rfl (V_move rfl rfl) ?_
    refine L_v rfl rfl rfl (V_move rfl rfl) ?_
    refine L_v rfl rfl rfl (V_indexC rfl rfl rfl Try.underlying27 sz39s (fun w hw => (hw.fa 0 rfl).1) (by omega) (by omega)) ?_
    refine L_v rfl rfl rfl (V_loadCN (vs := enX ((es.getD i env0).1) ((es.getD i env0).2.1) ((es.getD i env0).2.2)) rfl rfl Try.underlying39 rfl (szd sz39s (by kernel_rfl)) (fun w hw => (hw.fa 0 rfl).1) (by exact Nat.zero_lt_succ _) (rows_v (f := enW) env0 (sz := 42) (fun _ => rfl) (by omega))) ?_
    refine L_callV rfl rfl rfl rfl rfl rfl tx64s (fun w1 hw => isS_w (es.getD i env0).1 (es.getD i env0).2.1 (es.getD i env0).2.2 x c d g w1 (OkW.later hw rfl hg)) ?_
    refine L_nil ?_
    change J _ _ _ _
    refine J_cond rfl (fun h2 => ?_) (fun h2 => ?_)
    ·
      first | (have h2 := of_decide_eq_true h2) | (have h2 := of_decide_eq_false h2) | skip
      refine J_seq ?_
      refine J_region ?_
      refine L_v rfl rfl rfl (V_move rfl rfl) ?_
      refine L_v rfl rfl rfl (V_assign rfl rfl) ?_
      refine L_nil ?_
      change J _ _ _ _
      refine J_ret ?_
      change Kret _ _ _ Exit.ret _
      refine ret1 rfl rfl (RV_t rfl) ?_
      exact fun w' h => ⟨congrArg (fun b => Ending.returned (Value.int .i64 b)) (idxI_some (by omega) hno h2), h.fr⟩
    ·
      first | (have h2 := of_decide_eq_true h2) | (have h2 := of_decide_eq_false h2) | skip
      refine J_skip ?_
      change J _ _ _ _
      refine J_region ?_
      refine L_v rfl rfl rfl (V_add rfl rfl rfl (by first | exact Go.IntWalk.i64_in _ (by omega) | rfl)) ?_
      refine L_v rfl rfl rfl (V_move rfl rfl) ?_
      refine L_nil ?_
      exact ⟨i + 1, ⟨by show i + 1 ≤ es.length; omega, fun j hj => by
        rcases Nat.lt_or_eq_of_le (Nat.le_of_lt_succ hj) with h9 | rfl
        · exact hno j h9
        · exact h2⟩, by show es.length - (i + 1) < es.length - i; omega, ⟨rfl, rfl, rfl, rfl, trivial⟩, List.Sublist.refl _, fun f hf => hf, rfl⟩
  ·
    first | (have h1 := of_decide_eq_true h1) | (have h1 := of_decide_eq_false h1) | skip
    obtain rfl : i = es.length := by omega
    refine J_exit ?_
    change J _ _ _ _
    refine J_seq ?_
    refine J_region ?_
    refine L_v rfl rfl rfl (V_assign rfl rfl) ?_
    refine L_nil ?_
    change J _ _ _ _
    refine J_ret ?_
    change Kret _ _ _ Exit.ret _
    refine ret1 rfl rfl (RV_t rfl) ?_
    exact fun w' h => ⟨congrArg (fun b => Ending.returned (Value.int .i64 b)) (idxI_none hno), h.fr⟩

end Go.Proofs.Ytcdenfkbhefbbaa
