/- A snapshot is put in. -/
import Derived.Test.YtcdenfkbhefbbaaV8
import Derived.Test.YtcdenfkbhefbbaaSx18
set_option linter.unusedVariables false
set_option linter.unusedSimpArgs false
set_option maxRecDepth 100000
namespace Go.Proofs.Ytcdenfkbhefbbaa
open Go.Sx
theorem bs1 (a : Int) (w : World) : (Instr.buildSlice 22 1 [(0, .int .i64 a)].toArray).run Try.prog w = .ok (.slice (some ⟨w.heap.size, 0, none⟩) 1 1) (w.alloc (row 3 (ints [a]))) := by kernel_rfl
theorem bs2 (a b : Int) (w : World) : (Instr.buildSlice 22 2 [(0, .int .i64 a), (1, .int .i64 b)].toArray).run Try.prog w = .ok (.slice (some ⟨w.heap.size, 0, none⟩) 2 2) (w.alloc (row 3 (ints [a, b]))) := by kernel_rfl
/-- How many entries a snapshot cuts away. -/
def cutE (x : Sn) (es : List EnV) : Nat := match es.findIdx? (fun p => isS x p.1) with | some i => i + 1 | none => es.length
theorem cut_le (x : Sn) (es : List EnV) : cutE x es ≤ es.length := by
  unfold cutE
  split
  · rename_i i h
    exact (List.findIdx?_eq_some_iff_getElem.1 h).1
  · exact Nat.le_refl _
theorem cut_neg {x : Sn} {es : List EnV} (h : idxI x es < 0) : (es.length : Int) - 1 + 1 = (cutE x es : Int) := by
  unfold idxI at h
  unfold cutE
  split at h
  · omega
  · rename_i h1
    rw [h1]
    show (es.length : Int) - 1 + 1 = (es.length : Int)
    omega
theorem cut_pos {x : Sn} {es : List EnV} (h : ¬ idxI x es < 0) : idxI x es + 1 = (cutE x es : Int) := by
  unfold idxI at h ⊢
  unfold cutE
  split at h
  · rename_i i h1
    rw [h1]
    show (i : Int) + 1 = ((i + 1 : Nat) : Int)
    omega
  · rename_i h1
    exact absurd (by decide) h
theorem idx_bd (x : Sn) (es : List EnV) : -1 ≤ idxI x es ∧ idxI x es ≤ es.length := by
  unfold idxI
  split
  · rename_i i h
    have := (List.findIdx?_eq_some_iff_getElem.1 h).1
    omega
  · omega
theorem cut_S {x : Sn} {s : Sv} {es : List EnV} (h : s.ents = es.map Prod.fst) : cutS s x = cutE x es := by
  unfold cutS cutE
  rw [h, List.findIdx?_map, show ((fun e : En => decide (e.1 = x.1 ∧ e.2.1 = x.2.1)) ∘ Prod.fst) = (fun p : EnV => isS x p.1) from by
    funext p
    show decide _ = (decide _ && decide _)
    rw [Bool.decide_and], List.length_map]
  cases es.findIdx? (fun p => isS x p.1) <;> rfl
def insE (sn x : Sn) : Int := if x.1 ≤ sn.1 ∨ far x.1 then 110 else 0
theorem ins_a {sn x : Sn} (h : x.1 ≤ sn.1) : insE sn x = 110 := if_pos (.inl h)
theorem ins_b {sn x : Sn} (h : far x.1) : insE sn x = 110 := if_pos (.inr h)
theorem ins_c {sn x : Sn} (h1 : ¬ x.1 ≤ sn.1) (h2 : ¬ far x.1) : insE sn x = 0 := if_neg fun h => h.elim h1 h2
theorem farF {a : Int} (h : farL [a] = true) : far a := of_decide_eq_true h
theorem farN {a : Int} (h : farL [a] = false) : ¬ far a := of_decide_eq_false h
abbrev sDrop (s : Sp) (n l : Nat) : Value := .slice (if s.2 = l then s.1 else s.1.map (·.add (l * 43))) (n - l) (s.2 - l)
theorem sz3in : (Try.prog.info? 3).map (·.size) = some 1 := by kernel_rfl
theorem sz26in : (Try.prog.info? 26).map (·.size) = some 5 := by kernel_rfl
theorem sz27in : (Try.prog.info? 27).map (·.size) = some 1 := by kernel_rfl
theorem sz39in : (Try.prog.info? 39).map (·.size) = some 43 := by kernel_rfl
theorem tx18in : Txt Try.prog 18 := txt_of Try.func18 rfl (by kernel_rfl)
theorem tx43in : Txt Try.prog 43 := txt_of Try.func43 rfl (by kernel_rfl)
theorem tx63in : Txt Try.prog 63 := txt_of Try.func63 rfl (by kernel_rfl)

set_option maxHeartbeats 4000000 in
theorem install_w (b0 : Nat) (t v : Int) (sn : Sn) (a b : Sp) (es : List EnV) (s : Sp) (sg : Value) (x : Sn) (c d : Sp) (w : World) (hM : MemAt w ([(b0, row 30 (svC t v sn a b (.slice s.1 es.length s.2) sg))])) (hF : ∀ f ∈ [factC 43 (.slice s.1 es.length s.2) es.length (es.map enW).flatten, clA x.2.2.1 c d], f.p w ∧ ∀ k, f.fp k → k < w.heap.size ∧ k ∉ ([(b0, row 30 (svC t v sn a b (.slice s.1 es.length s.2) sg))]).map (·.1)) (hB : SzC x.2.2.1) (hE : es.length ≤ 549755813888) (hc : es.length ≤ s.2) :
    Calls Try.prog 47 #[.pointer (some ⟨b0, 0, none⟩), .agg (snX x c d).toArray] w fun e w' => ∃ s1 s2 : Sp, e = .returned (.int .i64 (insE sn x)) ∧ Upd ([(b0, row 30 (svC t v sn a b (.slice s.1 es.length s.2) sg))]) w w' [(b0, if insE sn x = 0 then row 30 (svC t v x s1 s2 (sDrop s es.length (cutE x es)) sg) else row 30 (svC t v sn a b (.slice s.1 es.length s.2) sg))] (if insE sn x = 0 then [clT 3 x.2.2.1 s1 s2] else []) := by
  have hib := idx_bd x es
  refine calls_of (args := [.pointer (some ⟨b0, 0, none⟩), .agg (snX x c d).toArray]) (([(b0, row 30 (svC t v sn a b (.slice s.1 es.length s.2) sg))]).map (·.1)) ([(b0, row 30 (svC t v sn a b (.slice s.1 es.length s.2) sg))]) ([factC 43 (.slice s.1 es.length s.2) es.length (es.map enW).flatten, clA x.2.2.1 c d]) Try.func47 rfl rfl (okMem hM hF) ?_
  refine J_seq ?_
  refine J_region ?_
  refine L_box rfl rfl rfl rfl rfl (fun b1 => ?_)
  refine L_v rfl rfl rfl (V_assign rfl rfl) ?_
  refine L_nil ?_
  change J _ _ _ _
  refine J_seq ?_
  refine J_seq ?_
  refine J_regionO (.pure 0 (.pure 1 (.pure 2 (.pure 3 (.pure 4 (.pure 5 (.pure 6 (.pure 7 (.pure 8 (.pure 9 (.pure 10 (.one 11 (.one 12 (.pure 13 (.nil))))))))))))))) ([(b0, row 30 (svC t v sn a b (.slice s.1 es.length s.2) sg)), (b1, row 26 (snX x c d))]) _ (Pk.of_sub (List.Sublist.cons_cons _ (List.Sublist.cons_cons _ (List.nil_sublist _)))) (fun f hf => hf) rfl rfl (by kernel_rfl) ?_
  refine LO_v rfl rfl rfl rfl (V_fieldAddr rfl rfl Try.underlying26 rfl sz3in rfl) ?_
  refine LO_v rfl rfl rfl rfl (V_load1 1 rfl rfl rfl Try.underlying3 rfl (by rfl)) ?_
  refine LO_v rfl rfl rfl rfl (V_move rfl rfl) ?_
  refine LO_v rfl rfl rfl rfl (V_nilCheck rfl rfl) ?_
  refine LO_v rfl rfl rfl rfl (V_fieldAddr rfl rfl Try.underlying30 rfl sz26in rfl) ?_
  refine LO_v rfl rfl rfl rfl (V_fieldAddr rfl rfl Try.underlying26 rfl sz3in rfl) ?_
  refine LO_v rfl rfl rfl rfl (V_load1 0 rfl rfl rfl Try.underlying3 rfl (by rfl)) ?_
  refine LO_v rfl rfl rfl rfl (V_leq rfl rfl rfl (by first | exact decide_eq_true (by omega) | exact decide_eq_false (by omega) | rfl)) ?_
  refine LO_v rfl rfl rfl rfl (V_move rfl rfl) ?_
  refine LO_split 14 rfl (fun h1 => ?_) (fun h1 => ?_)
  ·
    first | (have h1 := of_decide_eq_true h1) | (have h1 := of_decide_eq_false h1) | skip
    refine LO_skip rfl rfl rfl rfl rfl rfl rfl rfl ?_
    refine LO_skip rfl rfl rfl rfl rfl rfl rfl rfl ?_
    refine LO_skipL rfl rfl rfl rfl rfl rfl rfl rfl (Pk.of_sub (List.Sublist.cons_cons _ (List.Sublist.cons_cons _ (List.nil_sublist _)))) (fun f hf => hf) ?_
    refine LO_skipL rfl rfl rfl rfl rfl rfl rfl rfl (Pk.of_sub (List.Sublist.cons_cons _ (List.Sublist.cons_cons _ (List.nil_sublist _)))) (fun f hf => hf) ?_
    first | refine LO_v rfl rfl rfl rfl (V_pickT rfl rfl rfl) ?_ | refine LO_v rfl rfl rfl rfl (V_pickF rfl rfl rfl) ?_
    refine LO_nil ?_
    change J _ _ _ _
    refine J_true rfl ?_
    refine J_seq ?_
    refine J_region ?_
    refine L_v rfl rfl rfl (V_assign rfl rfl) ?_
    refine L_nil ?_
    change J _ _ _ _
    refine J_ret ?_
    change Kret _ _ _ Exit.ret _
    refine ret1 rfl rfl (RV_t rfl) ?_
    have hx := ins_a h1
    exact fun w' h => ⟨a, b, by rw [hx], by rw [hx, if_neg (by decide), if_neg (by decide)]; exact Upd.of h rfl (Pk.of_sub (List.Sublist.cons_cons _ (List.nil_sublist _))) (fun f hf => by cases hf) (fun f hf => by cases hf)⟩
  ·
    first | (have h1 := of_decide_eq_true h1) | (have h1 := of_decide_eq_false h1) | skip
    refine LO_wv rfl rfl rfl rfl rfl rfl rfl (V_fieldAddr rfl rfl Try.underlying26 rfl sz3in rfl) ?_
    refine LO_wv rfl rfl rfl rfl rfl rfl rfl (V_load1 1 rfl rfl rfl Try.underlying3 rfl (by rfl)) ?_
    refine LO_sw rfl rfl rfl rfl rfl rfl (S_buildSlice (vs := [(0, .int .i64 (x.1))]) (l := ints [x.1]) rfl rfl rfl rfl (bs1 _) (fun b2 => ⟨(Pk.of_sub (List.Sublist.cons_cons _ (List.Sublist.cons_cons _ (List.nil_sublist _)))), (fun f hf => hf), ?_⟩))
    refine LO_wcallV rfl rfl rfl rfl rfl rfl rfl rfl rfl rfl rfl tx18in (fun w1 hw => far_w (some ⟨b2, 0, none⟩, 1) [x.1] w1 (FA.slc (SlC.in (ks := ints [x.1]) (r := []) (fz := (0, 0)) hw (List.mem_append_right _ (List.mem_singleton.2 rfl)) rfl 1)) (Nat.succ_le_succ (Nat.zero_le _)) (by show 1 ≤ 100; decide)) (Pk.app (Pk.of_sub (List.Sublist.cons_cons _ (List.Sublist.cons_cons _ (List.nil_sublist _)))) _) (fun f hf => hf) ?_
    first | refine LO_v rfl rfl rfl rfl (V_pickT rfl rfl rfl) ?_ | refine LO_v rfl rfl rfl rfl (V_pickF rfl rfl rfl) ?_
    refine LO_nil ?_
    change J _ _ _ _
    refine J_cond rfl (fun h2 => ?_) (fun h2 => ?_)
    ·
      first | (have h2 := of_decide_eq_true h2) | (have h2 := of_decide_eq_false h2) | skip
      refine J_seq ?_
      refine J_region ?_
      refine L_v rfl rfl rfl (V_assign rfl rfl) ?_
      refine L_nil ?_
      change J _ _ _ _
      refine J_ret ?_
      change Kret _ _ _ Exit.ret _
      refine ret1 rfl rfl (RV_t rfl) ?_
      have hx := ins_b (sn := sn) h2
      exact fun w' h => ⟨a, b, by rw [hx], by rw [hx, if_neg (by decide), if_neg (by decide)]; exact Upd.of h rfl (Pk.of_sub (List.Sublist.cons_cons _ (List.nil_sublist _))) (fun f hf => by cases hf) (fun f hf => by cases hf)⟩
    ·
      first | (have h2 := of_decide_eq_true h2) | (have h2 := of_decide_eq_false h2) | skip
      refine J_skip ?_
      change J _ _ _ _
      refine J_seq ?_
      refine J_region ?_
      refine L_v rfl rfl rfl (V_move rfl rfl) ?_
      refine L_v rfl rfl rfl (V_nilCheck rfl rfl) ?_
      refine L_v rfl rfl rfl (V_fieldAddr rfl rfl Try.underlying30 rfl sz27in rfl) ?_
      refine L_v rfl rfl rfl (V_load1 0 rfl rfl rfl Try.underlying27 rfl (by rfl)) ?_
      refine L_v rfl rfl rfl (V_makeFunc rfl rfl rfl) ?_
      refine L_callV rfl rfl rfl rfl rfl rfl tx63in (fun w1 hw => idx_w es s x c d b1 w1 (hw.fa 0 rfl) (hw.at (i := 1) rfl) hE) ?_
      refine L_v rfl rfl rfl (V_assign rfl rfl) ?_
      refine L_nil ?_
      change J _ _ _ _
      refine J_seq ?_
      refine J_seq ?_
      refine J_region ?_
      refine L_v rfl rfl rfl (V_move rfl rfl) ?_
      refine L_v rfl rfl rfl (V_lss rfl rfl rfl (by first | exact decide_eq_true (by omega) | exact decide_eq_false (by omega) | rfl)) ?_
      refine L_nil ?_
      change J _ _ _ _
      refine J_cond rfl (fun h3 => ?_) (fun h3 => ?_)
      ·
        first | (have h3 := of_decide_eq_true h3) | (have h3 := of_decide_eq_false h3) | skip
        refine J_region ?_
        refine L_v rfl rfl rfl (V_move rfl rfl) ?_
        refine L_v rfl rfl rfl (V_nilCheck rfl rfl) ?_
        refine L_v rfl rfl rfl (V_fieldAddr rfl rfl Try.underlying30 rfl sz27in rfl) ?_
        refine L_v rfl rfl rfl (V_load1 0 rfl rfl rfl Try.underlying27 rfl (by rfl)) ?_
        refine L_v rfl rfl rfl (V_len rfl rfl Try.underlying27 rfl) ?_
        refine L_v rfl rfl rfl (V_sub rfl rfl rfl (by first | exact Go.IntWalk.i64_in _ (by omega) | rfl)) ?_
        refine L_v rfl rfl rfl (V_assign rfl rfl) ?_
        refine L_nil ?_
        change J _ _ _ _
        refine J_seq ?_
        refine J_region ?_
        refine L_v rfl rfl rfl (V_move rfl rfl) ?_
        refine L_v rfl rfl rfl (V_move rfl rfl) ?_
        refine L_v rfl rfl rfl (V_nilCheck rfl rfl) ?_
        refine L_v rfl rfl rfl (V_fieldAddr rfl rfl Try.underlying30 rfl sz27in rfl) ?_
        refine L_v rfl rfl rfl (V_load1 0 rfl rfl rfl Try.underlying27 rfl (by rfl)) ?_
        refine L_v rfl rfl rfl (V_move rfl rfl) ?_
        refine L_v rfl rfl rfl (V_add rfl rfl rfl (by first | exact Go.IntWalk.i64_in _ (by omega) | rfl)) ?_
        refine L_v rfl rfl rfl (V_sliceS rfl rfl Try.underlying27 sz39in (Bd.at (v := cutE x es) rfl (by first | exact cut_neg (by assumption) | exact cut_pos (by assumption))) rfl rfl rfl (by have := cut_le x es; omega) (by have := cut_le x es; omega) (by have := cut_le x es; omega) rfl) ?_
        refine L_v rfl rfl rfl (V_nilCheck rfl rfl) ?_
        refine L_v rfl rfl rfl (V_fieldAddr rfl rfl Try.underlying30 rfl sz27in rfl) ?_
        refine L_store1 0 (l' := svC t v sn a b (sDrop s es.length (cutE x es)) sg) rfl rfl rfl rfl rfl rfl rfl sz27in (Nat.le_of_ble_eq_true (by kernel_rfl)) (by kernel_rfl) ?_
        refine L_nil ?_
        change J _ _ _ _
        refine J_seq ?_
        refine J_region ?_
        refine L_v rfl rfl rfl (V_move rfl rfl) ?_
        refine L_v rfl rfl rfl (V_loadT 1 (vs := snX x c d) rfl rfl rfl Try.underlying26 rfl sz26in (by kernel_rfl) (by kernel_rfl)) ?_
        refine L_call rfl rfl rfl rfl tx43in (fun w1 hw => (ownSnapP_w x c d w1 (hw.fa 1 rfl) hB).mono ?_)
        rintro e w' ⟨s1, s2, rfl, hfr, hn1⟩
        have n1 : ∀ k, (_ : Fact).fp k → w.heap.size ≤ k := fun k hk => Nat.le_trans hw.fr.size (hn1.new k hk)
        refine ⟨_, _, _, rfl, hw.newN hfr hn1, rfl, ?_⟩
        refine L_v rfl rfl rfl (V_nilCheck rfl rfl) ?_
        refine L_v rfl rfl rfl (V_fieldAddr rfl rfl Try.underlying30 rfl sz26in rfl) ?_
        refine L_storeT 0 (l' := svC t v x s1 s2 (sDrop s es.length (cutE x es)) sg) rfl rfl rfl rfl rfl rfl (szd sz26in (by kernel_rfl)) (all_one (by kernel_rfl)) (Nat.le_of_ble_eq_true (by kernel_rfl)) (by kernel_rfl) ?_
        refine L_nil ?_
        change J _ _ _ _
        refine J_seq ?_
        refine J_region ?_
        refine L_v rfl rfl rfl (V_assign rfl rfl) ?_
        refine L_nil ?_
        change J _ _ _ _
        refine J_ret ?_
        change Kret _ _ _ Exit.ret _
        refine ret1 rfl rfl (RV_t rfl) ?_
        have hx := ins_c h1 h2
        exact fun w' h => ⟨s1, s2, by rw [hx], by rw [hx, if_pos rfl, if_pos rfl]; exact Upd.of h rfl (Pk.of_sub (List.Sublist.cons_cons _ (List.nil_sublist _))) (fun f hf => by obtain rfl := List.mem_singleton.1 hf; exact List.mem_append_right _ (List.mem_singleton.2 rfl)) (fun f hf => by obtain rfl := List.mem_singleton.1 hf; exact n1)⟩
      ·
        first | (have h3 := of_decide_eq_true h3) | (have h3 := of_decide_eq_false h3) | skip
        refine J_skip ?_
        change J _ _ _ _
        refine J_seq ?_
        refine J_region ?_
        refine L_v rfl rfl rfl (V_move rfl rfl) ?_
        refine L_v rfl rfl rfl (V_move rfl rfl) ?_
        refine L_v rfl rfl rfl (V_nilCheck rfl rfl) ?_
        refine L_v rfl rfl rfl (V_fieldAddr rfl rfl Try.underlying30 rfl sz27in rfl) ?_
        refine L_v rfl rfl rfl (V_load1 0 rfl rfl rfl Try.underlying27 rfl (by rfl)) ?_
        refine L_v rfl rfl rfl (V_move rfl rfl) ?_
        refine L_v rfl rfl rfl (V_add rfl rfl rfl (by first | exact Go.IntWalk.i64_in _ (by omega) | rfl)) ?_
        refine L_v rfl rfl rfl (V_sliceS rfl rfl Try.underlying27 sz39in (Bd.at (v := cutE x es) rfl (by first | exact cut_neg (by assumption) | exact cut_pos (by assumption))) rfl rfl rfl (by have := cut_le x es; omega) (by have := cut_le x es; omega) (by have := cut_le x es; omega) rfl) ?_
        refine L_v rfl rfl rfl (V_nilCheck rfl rfl) ?_
        refine L_v rfl rfl rfl (V_fieldAddr rfl rfl Try.underlying30 rfl sz27in rfl) ?_
        refine L_store1 0 (l' := svC t v sn a b (sDrop s es.length (cutE x es)) sg) rfl rfl rfl rfl rfl rfl rfl sz27in (Nat.le_of_ble_eq_true (by kernel_rfl)) (by kernel_rfl) ?_
        refine L_nil ?_
        change J _ _ _ _
        refine J_seq ?_
        refine J_region ?_
        refine L_v rfl rfl rfl (V_move rfl rfl) ?_
        refine L_v rfl rfl rfl (V_loadT 1 (vs := snX x c d) rfl rfl rfl Try.underlying26 rfl sz26in (by kernel_rfl) (by kernel_rfl)) ?_
        refine L_call rfl rfl rfl rfl tx43in (fun w1 hw => (ownSnapP_w x c d w1 (hw.fa 1 rfl) hB).mono ?_)
        rintro e w' ⟨s1, s2, rfl, hfr, hn1⟩
        have n1 : ∀ k, (_ : Fact).fp k → w.heap.size ≤ k := fun k hk => Nat.le_trans hw.fr.size (hn1.new k hk)
        refine ⟨_, _, _, rfl, hw.newN hfr hn1, rfl, ?_⟩
        refine L_v rfl rfl rfl (V_nilCheck rfl rfl) ?_
        refine L_v rfl rfl rfl (V_fieldAddr rfl rfl Try.underlying30 rfl sz26in rfl) ?_
        refine L_storeT 0 (l' := svC t v x s1 s2 (sDrop s es.length (cutE x es)) sg) rfl rfl rfl rfl rfl rfl (szd sz26in (by kernel_rfl)) (all_one (by kernel_rfl)) (Nat.le_of_ble_eq_true (by kernel_rfl)) (by kernel_rfl) ?_
        refine L_nil ?_
        change J _ _ _ _
        refine J_seq ?_
        refine J_region ?_
        refine L_v rfl rfl rfl (V_assign rfl rfl) ?_
        refine L_nil ?_
        change J _ _ _ _
        refine J_ret ?_
        change Kret _ _ _ Exit.ret _
        refine ret1 rfl rfl (RV_t rfl) ?_
        have hx := ins_c h1 h2
        exact fun w' h => ⟨s1, s2, by rw [hx], by rw [hx, if_pos rfl, if_pos rfl]; exact Upd.of h rfl (Pk.of_sub (List.Sublist.cons_cons _ (List.nil_sublist _))) (fun f hf => by obtain rfl := List.mem_singleton.1 hf; exact List.mem_append_right _ (List.mem_singleton.2 rfl)) (fun f hf => by obtain rfl := List.mem_singleton.1 hf; exact n1)⟩

end Go.Proofs.Ytcdenfkbhefbbaa
