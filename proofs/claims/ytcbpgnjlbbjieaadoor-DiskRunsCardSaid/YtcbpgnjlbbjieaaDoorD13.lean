/- The document's disk: a crash. -/
import Derived.Test.YtcbpgnjlbbjieaaDoorD12
set_option linter.unusedVariables false
set_option linter.unusedSimpArgs false
set_option maxRecDepth 100000
namespace Go.Proofs.YtcbpgnjlbbjieaaDoor
open Go.Sx
/-- The names so far, each with its place. -/
def sfN (S : List Nm) (i : Nat) : List Nm := (S.take i).zipIdx.map fun p => (p.1.1, p.2)
theorem sfN_s {S : List Nm} {i : Nat} (h : i < S.length) : sfN S (i + 1) = sfN S i ++ [((S.getD i (e0, 0)).1, i)] := by
  unfold sfN
  rw [take_s (e0, 0) h, List.zipIdx_append, List.map_append, List.length_take, Nat.min_eq_left (Nat.le_of_lt h)]
  show _ ++ [((S.getD i (e0, 0)).1, 0 + i)] = _
  rw [Nat.zero_add]
theorem sfN_end (S : List Nm) : sfN S S.length = S.zipIdx.map fun p => (p.1.1, p.2) := by unfold sfN; rw [List.take_length]
theorem sfN_len {S : List Nm} {i : Nat} (h : i ≤ S.length) : (sfN S i).length = i := by unfold sfN; rw [List.length_map, List.length_zipIdx, List.length_take, Nat.min_eq_left h]
theorem rcrash_bs {D : Dk} {tl : List Int} {z : Int} {S : List Nm} {i : Nat} {bsn : List RB} {y : RB} (h : bsn.map Prod.fst = (List.range i).map (crashB D tl z S)) (hy : y.1 = crashB D tl z S i) : (bsn ++ [y]).map Prod.fst = (List.range (i + 1)).map (crashB D tl z S) := by
  rw [List.map_append, h, List.range_succ, List.map_append, List.map_singleton, List.map_singleton, hy]
theorem bsRK (a : Option Addr) (m c : Nat) (w : World) : (Instr.buildSlice 78 1 [(0, .agg [.slice a m c, .int .i64 m].toArray)].toArray).run Tryd.prog w = .ok (.slice (some ⟨w.heap.size, 0, none⟩) 1 1) (w.alloc (row 91 [.slice a m c, .int .i64 m])) := by kernel_rfl
theorem tailK_0 {x : Bo} {tl : List Int} {i : Nat} (h : ¬ (i < tl.length ∧ tl.getD i 0 > 0)) : tailK x tl i = 0 := by
  unfold tailK
  split
  · rename_i h1
    have : ¬ tl.getD i 0 > 0 := fun h2 => h ⟨h1, h2⟩
    omega
  · rfl
theorem sz3dm : (Tryd.prog.info? 3).map (·.size) = some 1 := by kernel_rfl
theorem sz4dm : (Tryd.prog.info? 4).map (·.size) = some 1 := by kernel_rfl
theorem sz5dm : (Tryd.prog.info? 5).map (·.size) = some 1 := by kernel_rfl
theorem sz9dm : (Tryd.prog.info? 9).map (·.size) = some 1 := by kernel_rfl
theorem sz22dm : (Tryd.prog.info? 22).map (·.size) = some 1 := by kernel_rfl
theorem sz78dm : (Tryd.prog.info? 78).map (·.size) = some 1 := by kernel_rfl
theorem sz79dm : (Tryd.prog.info? 79).map (·.size) = some 1 := by kernel_rfl
theorem sz80dm : (Tryd.prog.info? 80).map (·.size) = some 1 := by kernel_rfl
theorem sz91dm : (Tryd.prog.info? 91).map (·.size) = some 2 := by kernel_rfl
theorem sz94dm : (Tryd.prog.info? 94).map (·.size) = some 3 := by kernel_rfl
theorem sz96dm : (Tryd.prog.info? 96).map (·.size) = some 2 := by kernel_rfl
theorem tx61dm : Txt Tryd.prog 61 := txt_of Tryd.func61 rfl (by kernel_rfl)
theorem z91dm : (Tryd.prog.info? 91).bind (·.zero) = some (.agg [.slice none 0 0, .int .i64 0].toArray) := by kernel_rfl

set_option maxHeartbeats 20000000 in
theorem rcrash_w (b1 : Nat) (D : Dk) (H : RkH) (n : Int) (at_ : Option Addr) (ct : Nat) (tl : List Int) (z : Int) (w : World) {k : Nat} (hM : MemAt w (rkM b1 D H)) (hG : GoodR D H) (hW : WfD D k) (hF : ∀ f ∈ [rkF D H, factC 1 (.slice at_ tl.length ct) tl.length (intV tl)], f.p w ∧ ∀ k, f.fp k → k < w.heap.size ∧ k ∉ (rkM b1 D H).map (·.1)) (hk : k ≤ 549755813888) :
    Calls Tryd.prog 48 #[.pointer (some ⟨b1, 0, none⟩), .int .i64 n, .slice at_ tl.length ct, .int .u8 z] w fun e w' => RkP b1 D H w (crashD D n tl z) (.tuple #[]) e w' := by
  have hn2 := hW.n2
  have hcl := hG.c.le
  have hbl := rbs_len hG
  refine calls_of (args := [.pointer (some ⟨b1, 0, none⟩), .int .i64 n, .slice at_ tl.length ct, .int .u8 z]) ((rkM b1 D H).map (·.1)) (rkM b1 D H) ([rkF D H, factC 1 (.slice at_ tl.length ct) tl.length (intV tl)]) Tryd.func48 rfl rfl (okMem hM hF) ?_
  refine J_deriv (nmF H.sa H.sc D.sf) (fun w hw => (hw.fa 0 rfl).1.1) (fun k hk => ⟨rkF D H, List.mem_cons_self .., .inl hk⟩) ?_
  refine J_seq ?_
  refine J_seq ?_
  refine J_region ?_
  refine L_v rfl rfl rfl (V_assign rfl rfl) ?_
  refine L_nil ?_
  change J _ _ _ _
  refine J_block ?_
  refine J_loop (X := Nat × Option Addr × Nat) (fun x => { env := [(0, .pointer (some ⟨b1, 0, none⟩)), (1, .int .i64 n), (2, .slice at_ tl.length ct), (3, .int .u8 z), (8, .int .i64 (x.1 : Int))], mem := (b1, row 82 (rkT D.room (pV H.qb H.bs.length) (.slice x.2.1 ((D.ch.take x.1).foldl doN D.sf).length x.2.2) (pV H.qc D.ch.length) D.down D.stops D.left)) :: (pM 94 H.qc (chR D.ch) ++ pM 91 H.qb (rboR H.bs)), facts := [rkF D H, factC 1 (.slice at_ tl.length ct) tl.length (intV tl), nmF x.2.1 x.2.2 ((D.ch.take x.1).foldl doN D.sf)] }) (fun x => x.1 ≤ (min (max n 0) D.ch.length).toNat ∧ ON [rkF D H] w.heap.size (nmF x.2.1 x.2.2 ((D.ch.take x.1).foldl doN D.sf))) (fun x => (min (max n 0) D.ch.length).toNat - x.1) (0, H.sa, H.sc) ⟨Nat.zero_le _, rsf_on D H _⟩ ⟨⟨rfl, rfl, rfl, rfl, rfl, trivial⟩, List.Sublist.refl _, fun f hf => hf, rfl⟩ ?_
  rintro ⟨i, a, c⟩ ⟨hik, hon⟩
  try simp only at hik hon ⊢
  refine J_seq ?_
  refine J_seq ?_
  refine J_region ?_
  refine L_v rfl rfl rfl (V_move rfl rfl) ?_
  refine L_v rfl rfl rfl (V_move rfl rfl) ?_
  refine L_v rfl rfl rfl (V_nilCheck rfl rfl) ?_
  refine L_v rfl rfl rfl (V_fieldAddr rfl rfl Tryd.underlying82 rfl sz80dm rfl) ?_
  refine L_v rfl rfl rfl (V_load1 0 rfl rfl rfl Tryd.underlying80 rfl (by rfl)) ?_
  refine L_v rfl rfl rfl (V_len rfl rfl Tryd.underlying80 rfl) ?_
  refine L_v rfl rfl rfl (V_lss rfl rfl rfl rfl) ?_
  refine L_v rfl rfl rfl (V_move rfl rfl) ?_
  apply L_and 3 22 26
  · rfl
  · rfl
  · rfl
  · rfl
  · rfl
  · rfl
  · rfl
  · kernel_rfl
  · intro hb1 _ _ hk1
    refine L_wv rfl rfl rfl rfl rfl rfl (V_move rfl rfl) ?_
    refine L_wv rfl rfl rfl rfl rfl rfl (V_move rfl rfl) ?_
    refine L_wv rfl rfl rfl rfl rfl rfl (V_lss rfl rfl rfl rfl) ?_
    exact hk1 _ ⟨rfl, (by first | simp only [St.put] | rfl), (by first | simp only [St.put] | rfl), (by first | simp only [St.put] | rfl), ext_cut 3 (by kernel_rfl) (by kernel_rfl)⟩
  refine L_nil ?_
  change J _ _ _ _
  refine J_cond rfl (fun h2 => ?_) (fun h2 => ?_)
  ·
    first | (have h2 := of_decide_eq_true h2) | (have h2 := of_decide_eq_false h2) | skip
    rw [Bool.and_eq_true, decide_eq_true_eq, decide_eq_true_eq] at h2
    have hic : i < D.ch.length := by omega
    have hAc : ∃ b off, pA H.qc = some ⟨b, off, none⟩ := hG.c.at (by omega)
    refine J_skip ?_
    change J _ _ _ _
    refine J_seq ?_
    refine J_block ?_
    refine J_regionO (.pure 0 (.pure 1 (.pure 2 (.pure 3 (.pure 5 (.pure 6 (.pure 7 (.pure 9 (.two 4 (.one 8 (.pure 10 (.pure 11 (.one 12 (.pure 13 (.pure 14 (.one 15 (.nil)))))))) 8 (.pure 10 (.pure 11 (.one 4 (.one 12 (.pure 13 (.pure 14 (.one 15 (.nil))))))))))))))))) (pM 94 H.qc (chR D.ch)) _ (Pk.of_sub (List.Sublist.cons _ (List.sublist_append_left _ _))) (fun f hf => hf) rfl rfl (by kernel_rfl) ?_
    refine LO_v rfl rfl rfl rfl (V_move rfl rfl) ?_
    refine LO_v rfl rfl rfl rfl (V_move rfl rfl) ?_
    refine LO_v rfl rfl rfl rfl (V_nilCheck rfl rfl) ?_
    refine LO_v rfl rfl rfl rfl (V_fieldAddr rfl rfl Tryd.underlying82 rfl sz79dm rfl) ?_
    refine LO_v rfl rfl rfl rfl (V_move rfl rfl) ?_
    refine LO_v rfl rfl rfl rfl (V_nilCheck rfl rfl) ?_
    refine LO_v rfl rfl rfl rfl (V_fieldAddr rfl rfl Tryd.underlying82 rfl sz80dm rfl) ?_
    refine LO_v rfl rfl rfl rfl (V_move rfl rfl) ?_
    refine LO_both ?_ ?_
    ·
      refine LO_s rfl rfl rfl (S_v rfl rfl (V_load1 0 rfl rfl rfl Tryd.underlying79 rfl (by rfl)) ⟨(Pk.of_sub (List.Sublist.cons _ (List.sublist_append_left _ _))), (fun f hf => hf), ?_⟩)
      refine LO_s rfl rfl rfl (S_v rfl rfl (V_load1 0 rfl rfl rfl Tryd.underlying80 rfl (by rfl)) ⟨(Pk.of_sub (List.Sublist.cons _ (List.sublist_append_left _ _))), (fun f hf => hf), ?_⟩)
      refine LO_v rfl rfl rfl rfl (V_indexN rfl rfl rfl Tryd.underlying80 sz94dm hAc (by omega) (by omega)) ?_
      refine LO_v rfl rfl rfl rfl (V_loadCN (vs := chV (D.ch.getD i (e0, e0, 0))) rfl rfl Tryd.underlying94 rfl (szd sz94dm (by kernel_rfl)) (fun w hw => hG.c.slC (e := 94) hw (fun p hp => hp)) (by exact Nat.zero_lt_succ _) (ch_at hic)) ?_
      refine LO_s rfl rfl rfl (S_call rfl rfl rfl tx61dm (fun w1 hw => (done_w a c ((D.ch.take i).foldl doN D.sf) (D.ch.getD i (e0, e0, 0)) w1 (hw.fa 2 rfl).1 (by have := rli_len D i; omega)).mono ?_))
      rintro e w' ⟨a2, c2, rfl, hfr, hg⟩
      have hn2 := hg.2.trans (fs := [rkF D H]) (n := w.heap.size) (fun x hx => (by obtain rfl := List.mem_singleton.1 hx; exact hon)) hw.fr.size
      refine ⟨_, _, _, rfl, hw.addG (fun x hx => by obtain rfl := List.mem_singleton.1 hx; exact List.mem_cons_of_mem _ (List.mem_cons_of_mem _ (List.mem_cons_self ..))) hfr hg, rfl, (Pk.of_sub (List.Sublist.cons _ (List.sublist_append_left _ _))), (fun f hf => List.mem_append_left _ hf), ?_⟩
      refine LO_v rfl rfl rfl rfl (V_nilCheck rfl rfl) ?_
      refine LO_v rfl rfl rfl rfl (V_fieldAddr rfl rfl Tryd.underlying82 rfl sz79dm rfl) ?_
      refine LO_s rfl rfl rfl (S_store1 0 (l' := rkT D.room (pV H.qb H.bs.length) (.slice a2 (doN ((D.ch.take i).foldl doN D.sf) (D.ch.getD i (e0, e0, 0))).length c2) (pV H.qc D.ch.length) D.down D.stops D.left) rfl rfl rfl rfl rfl rfl sz79dm (Nat.le_of_ble_eq_true (by kernel_rfl)) (by kernel_rfl) ⟨(Pk.of_sub (List.Sublist.cons _ (List.sublist_append_left _ _))), (fun f hf => List.mem_append_left _ hf), ?_⟩)
      refine LO_nil ?_
      change J _ _ _ _
      refine J_region ?_
      refine L_v rfl rfl rfl (V_move rfl rfl) ?_
      refine L_v rfl rfl rfl (V_add (r := ((i + 1 : Nat) : Int)) rfl rfl rfl (by rw [IntKind.wrap_i64]; omega)) ?_
      refine L_v rfl rfl rfl (V_assign rfl rfl) ?_
      refine L_nil ?_
      have e9 := crashS_take D i hic
      exact ⟨(i + 1, a2, c2), ⟨by show i + 1 ≤ _; omega, by show ON _ _ (nmF a2 c2 ((D.ch.take (i + 1)).foldl doN D.sf)); rw [e9]; exact hn2⟩, by show (min (max n 0) D.ch.length).toNat - (i + 1) < (min (max n 0) D.ch.length).toNat - i; omega, ⟨rfl, rfl, rfl, rfl, rfl, trivial⟩, (by show List.Sublist ((b1, row 82 (rkT D.room (pV H.qb H.bs.length) (.slice a2 ((D.ch.take (i + 1)).foldl doN D.sf).length c2) (pV H.qc D.ch.length) D.down D.stops D.left)) :: (pM 94 H.qc (chR D.ch) ++ pM 91 H.qb (rboR H.bs))) _; rw [e9]; exact List.Sublist.refl _), (fun f hf => by
        have hf : f ∈ [rkF D H, factC 1 (.slice at_ tl.length ct) tl.length (intV tl), nmF a2 c2 ((D.ch.take (i + 1)).foldl doN D.sf)] := hf
        rw [e9] at hf
        simp only [List.mem_cons, List.not_mem_nil, or_false] at hf
        rcases hf with rfl | rfl | rfl
        · exact List.mem_append_left _ (List.mem_cons_self ..)
        · exact List.mem_append_left _ (List.mem_cons_of_mem _ (List.mem_cons_self ..))
        · exact List.mem_append_right _ (List.mem_singleton.2 rfl)), rfl⟩
    ·
      refine LO_s rfl rfl rfl (S_v rfl rfl (V_load1 0 rfl rfl rfl Tryd.underlying80 rfl (by rfl)) ⟨(Pk.of_sub (List.Sublist.cons _ (List.sublist_append_left _ _))), (fun f hf => List.mem_append_left _ hf), ?_⟩)
      refine LO_v rfl rfl rfl rfl (V_indexN rfl rfl rfl Tryd.underlying80 sz94dm hAc (by omega) (by omega)) ?_
      refine LO_v rfl rfl rfl rfl (V_loadCN (vs := chV (D.ch.getD i (e0, e0, 0))) rfl rfl Tryd.underlying94 rfl (szd sz94dm (by kernel_rfl)) (fun w hw => hG.c.slC (e := 94) hw (fun p hp => hp)) (by exact Nat.zero_lt_succ _) (ch_at hic)) ?_
      refine LO_s rfl rfl rfl (S_v rfl rfl (V_load1 0 rfl rfl rfl Tryd.underlying79 rfl (by rfl)) ⟨(Pk.of_sub (List.Sublist.cons _ (List.sublist_append_left _ _))), (fun f hf => List.mem_append_left _ hf), ?_⟩)
      refine LO_s rfl rfl rfl (S_call rfl rfl rfl tx61dm (fun w1 hw => (done_w a c ((D.ch.take i).foldl doN D.sf) (D.ch.getD i (e0, e0, 0)) w1 (hw.fa 2 rfl).1 (by have := rli_len D i; omega)).mono ?_))
      rintro e w' ⟨a2, c2, rfl, hfr, hg⟩
      have hn2 := hg.2.trans (fs := [rkF D H]) (n := w.heap.size) (fun x hx => (by obtain rfl := List.mem_singleton.1 hx; exact hon)) hw.fr.size
      refine ⟨_, _, _, rfl, hw.addG (fun x hx => by obtain rfl := List.mem_singleton.1 hx; exact List.mem_cons_of_mem _ (List.mem_cons_of_mem _ (List.mem_cons_self ..))) hfr hg, rfl, (Pk.of_sub (List.Sublist.cons _ (List.sublist_append_left _ _))), (fun f hf => List.mem_append_left _ hf), ?_⟩
      refine LO_v rfl rfl rfl rfl (V_nilCheck rfl rfl) ?_
      refine LO_v rfl rfl rfl rfl (V_fieldAddr rfl rfl Tryd.underlying82 rfl sz79dm rfl) ?_
      refine LO_s rfl rfl rfl (S_store1 0 (l' := rkT D.room (pV H.qb H.bs.length) (.slice a2 (doN ((D.ch.take i).foldl doN D.sf) (D.ch.getD i (e0, e0, 0))).length c2) (pV H.qc D.ch.length) D.down D.stops D.left) rfl rfl rfl rfl rfl rfl sz79dm (Nat.le_of_ble_eq_true (by kernel_rfl)) (by kernel_rfl) ⟨(Pk.of_sub (List.Sublist.cons _ (List.sublist_append_left _ _))), (fun f hf => List.mem_append_left _ hf), ?_⟩)
      refine LO_nil ?_
      change J _ _ _ _
      refine J_region ?_
      refine L_v rfl rfl rfl (V_move rfl rfl) ?_
      refine L_v rfl rfl rfl (V_add (r := ((i + 1 : Nat) : Int)) rfl rfl rfl (by rw [IntKind.wrap_i64]; omega)) ?_
      refine L_v rfl rfl rfl (V_assign rfl rfl) ?_
      refine L_nil ?_
      have e9 := crashS_take D i hic
      exact ⟨(i + 1, a2, c2), ⟨by show i + 1 ≤ _; omega, by show ON _ _ (nmF a2 c2 ((D.ch.take (i + 1)).foldl doN D.sf)); rw [e9]; exact hn2⟩, by show (min (max n 0) D.ch.length).toNat - (i + 1) < (min (max n 0) D.ch.length).toNat - i; omega, ⟨rfl, rfl, rfl, rfl, rfl, trivial⟩, (by show List.Sublist ((b1, row 82 (rkT D.room (pV H.qb H.bs.length) (.slice a2 ((D.ch.take (i + 1)).foldl doN D.sf).length c2) (pV H.qc D.ch.length) D.down D.stops D.left)) :: (pM 94 H.qc (chR D.ch) ++ pM 91 H.qb (rboR H.bs))) _; rw [e9]; exact List.Sublist.refl _), (fun f hf => by
        have hf : f ∈ [rkF D H, factC 1 (.slice at_ tl.length ct) tl.length (intV tl), nmF a2 c2 ((D.ch.take (i + 1)).foldl doN D.sf)] := hf
        rw [e9] at hf
        simp only [List.mem_cons, List.not_mem_nil, or_false] at hf
        rcases hf with rfl | rfl | rfl
        · exact List.mem_append_left _ (List.mem_cons_self ..)
        · exact List.mem_append_left _ (List.mem_cons_of_mem _ (List.mem_cons_self ..))
        · exact List.mem_append_right _ (List.mem_singleton.2 rfl)), rfl⟩
  ·
    first | (have h2 := of_decide_eq_true h2) | (have h2 := of_decide_eq_false h2) | skip
    rw [Bool.and_eq_false_iff, decide_eq_false_iff_not, decide_eq_false_iff_not] at h2
    obtain rfl : i = (min (max n 0) D.ch.length).toNat := by omega
    refine J_exit ?_
    change J _ _ _ _
    refine J_seq ?_
    refine J_region ?_
    refine L_v rfl rfl rfl (V_move rfl rfl) ?_
    refine L_v rfl rfl rfl (V_nilCheck rfl rfl) ?_
    refine L_v rfl rfl rfl (V_fieldAddr rfl rfl Tryd.underlying82 rfl sz80dm rfl) ?_
    refine L_store1 0 (l' := rkT D.room (pV H.qb H.bs.length) (.slice a (crashS D n).length c) (.slice none 0 0) D.down D.stops D.left) rfl rfl rfl rfl rfl rfl rfl sz80dm (Nat.le_of_ble_eq_true (by kernel_rfl)) (by kernel_rfl) ?_
    refine L_nil ?_
    change J _ _ _ _
    refine J_seq ?_
    refine J_region ?_
    refine L_v rfl rfl rfl (V_move rfl rfl) ?_
    refine L_v rfl rfl rfl (V_nilCheck rfl rfl) ?_
    refine L_v rfl rfl rfl (V_fieldAddr rfl rfl Tryd.underlying82 rfl sz4dm rfl) ?_
    refine L_store1 0 (l' := rkT D.room (pV H.qb H.bs.length) (.slice a (crashS D n).length c) (.slice none 0 0) false D.stops D.left) rfl rfl rfl rfl rfl rfl rfl sz4dm (Nat.le_of_ble_eq_true (by kernel_rfl)) (by kernel_rfl) ?_
    refine L_nil ?_
    change J _ _ _ _
    refine J_seq ?_
    refine J_region ?_
    refine L_v rfl rfl rfl (V_move rfl rfl) ?_
    refine L_v rfl rfl rfl (V_nilCheck rfl rfl) ?_
    refine L_v rfl rfl rfl (V_fieldAddr rfl rfl Tryd.underlying82 rfl sz4dm rfl) ?_
    refine L_store1 0 (l' := rkT D.room (pV H.qb H.bs.length) (.slice a (crashS D n).length c) (.slice none 0 0) false false D.left) rfl rfl rfl rfl rfl rfl rfl sz4dm (Nat.le_of_ble_eq_true (by kernel_rfl)) (by kernel_rfl) ?_
    refine L_nil ?_
    change J _ _ _ _
    refine J_seq ?_
    refine J_deriv (allF (([] : List RB).map rbF)) (fun w hw f hf => by cases hf) (fun k hk => by obtain ⟨f, hf, _⟩ := hk; cases hf) ?_
    refine J_region ?_
    refine L_v rfl rfl rfl (V_assign rfl rfl) ?_
    refine L_nil ?_
    change J _ _ _ _
    refine J_seq ?_
    refine J_region ?_
    refine L_v rfl rfl rfl (V_assign rfl rfl) ?_
    refine L_nil ?_
    change J _ _ _ _
    refine J_seq ?_
    refine J_seq ?_
    refine J_region ?_
    refine L_v rfl rfl rfl (V_assign rfl rfl) ?_
    refine L_nil ?_
    change J _ _ _ _
    refine J_block ?_
    refine J_loop (X := Nat × OwnP × List RB × OwnP) (fun x => { env := [(0, .pointer (some ⟨b1, 0, none⟩)), (2, .slice at_ tl.length ct), (3, .int .u8 z), (9, pV x.2.1 x.2.2.1.length), (10, pV x.2.2.2 x.1), (11, .int .i64 (x.1 : Int))], mem := (b1, row 82 (rkT D.room (pV H.qb H.bs.length) (.slice a (crashS D n).length c) (.slice none 0 0) false false D.left)) :: (pM 94 H.qc (chR D.ch) ++ (pM 91 H.qb (rboR H.bs) ++ (pM 91 x.2.1 (rboR x.2.2.1) ++ pM 96 x.2.2.2 (nmR (sfN (crashS D n) x.1))))), facts := [rkF D H, factC 1 (.slice at_ tl.length ct) tl.length (intV tl), nmF a c (crashS D n), allF (x.2.2.1.map rbF)] }) (fun x => x.1 ≤ (crashS D n).length ∧ PC 2 x.2.1 x.2.2.1.length (rboR x.2.2.1) ∧ x.2.2.1.length = x.1 ∧ x.2.2.1.map Prod.fst = (List.range x.1).map (crashB D tl z (crashS D n)) ∧ (∀ y ∈ x.2.2.1, y.1.1.length ≤ y.2.2) ∧ PC 2 x.2.2.2 x.1 (nmR (sfN (crashS D n) x.1)) ∧ ON [rkF D H] w.heap.size (allF (x.2.2.1.map rbF))) (fun x => (crashS D n).length - x.1) (0, none, [], none) ⟨Nat.zero_le _, ⟨rfl, rfl⟩, rfl, rfl, fun y hy => (by cases hy), ⟨rfl, rfl⟩, fun k hk => by obtain ⟨f, hf, _⟩ := hk; cases hf⟩ ⟨⟨rfl, rfl, rfl, rfl, rfl, rfl, trivial⟩, (by show List.Sublist (_ :: (_ ++ (_ ++ ([] ++ [])))) (_ :: (_ ++ _)); rw [List.append_nil, List.append_nil]; exact List.Sublist.refl _), fun f hf => hf, rfl⟩ ?_
    rintro ⟨i, qn, bsn, qm⟩ ⟨hin, hqn, hbl2, hbs, hcp, hqm, hob⟩
    try simp only at hin hqn hbl2 hbs hcp hqm hob ⊢
    refine J_seq ?_
    refine J_seq ?_
    refine J_region ?_
    refine L_v rfl rfl rfl (V_move rfl rfl) ?_
    refine L_v rfl rfl rfl (V_move rfl rfl) ?_
    refine L_v rfl rfl rfl (V_nilCheck rfl rfl) ?_
    refine L_v rfl rfl rfl (V_fieldAddr rfl rfl Tryd.underlying82 rfl sz79dm rfl) ?_
    refine L_v rfl rfl rfl (V_load1 0 rfl rfl rfl Tryd.underlying79 rfl (by rfl)) ?_
    refine L_v rfl rfl rfl (V_len rfl rfl Tryd.underlying79 rfl) ?_
    refine L_v rfl rfl rfl (V_lss rfl rfl rfl rfl) ?_
    refine L_nil ?_
    change J _ _ _ _
    refine J_cond rfl (fun h3 => ?_) (fun h3 => ?_)
    ·
      first | (have h3 := of_decide_eq_true h3) | (have h3 := of_decide_eq_false h3) | skip
      have hin2 : i < (crashS D n).length := by omega
      have hil := hW.clt n _ (getD_mem (d := (e0, 0)) hin2)
      obtain ⟨qx, hqx⟩ := rbs_get hG hil
      have hAt : ∃ b off, pA H.qb = some ⟨b, off, none⟩ := hG.b.at (by omega)
      have hod := hW.bod ((crashS D n).getD i (e0, 0)).2
      have ht2 : ((D.bo.getD ((crashS D n).getD i (e0, 0)).2 bo0).2 + (tailK (D.bo.getD ((crashS D n).getD i (e0, 0)).2 bo0) tl i)) ≤ (D.bo.getD ((crashS D n).getD i (e0, 0)).2 bo0).1.length := tailK_le _ tl i hod.1
      have hl2 := tk_len D n tl i ht2
      have hod1 := hod.1
      have hod2 := hod.2.1
      have hn1 := hW.n1
      have hcl2 := hW.clen n
      have hinx : rbF ((D.bo.getD ((crashS D n).getD i (e0, 0)).2 bo0), qx) ∈ H.bs.map rbF := List.mem_map.2 ⟨_, List.mem_of_getElem? hqx, rfl⟩
      have hcx : (D.bo.getD ((crashS D n).getD i (e0, 0)).2 bo0).1.length ≤ qx.2 := hG.k _ (List.mem_of_getElem? hqx)
      refine J_skip ?_
      change J _ _ _ _
      refine J_seq ?_
      refine J_block ?_
      refine J_seq ?_
      refine J_regionO (.pure 0 (.pure 1 (.pure 2 (.pure 3 (.pure 4 (.pure 5 (.pure 6 (.pure 7 (.pure 8 (.pure 9 (.pure 10 (.pure 11 (.pure 12 (.pure 13 (.one 14 (.one 15 (.nil))))))))))))))))) ((b1, row 82 (rkT D.room (pV H.qb H.bs.length) (.slice a (crashS D n).length c) (.slice none 0 0) false false D.left)) :: (pM 94 H.qc (chR D.ch) ++ (pM 91 H.qb (rboR H.bs) ++ (pM 91 qn (rboR bsn) ++ pM 96 qm (nmR (sfN (crashS D n) i)))))) _ (Pk.refl _) (fun f hf => hf) rfl rfl (by kernel_rfl) ?_
      refine LO_v rfl rfl rfl rfl (V_move rfl rfl) ?_
      refine LO_v rfl rfl rfl rfl (V_nilCheck rfl rfl) ?_
      refine LO_v rfl rfl rfl rfl (V_fieldAddr rfl rfl Tryd.underlying82 rfl sz78dm rfl) ?_
      refine LO_v rfl rfl rfl rfl (V_load1 0 rfl rfl rfl Tryd.underlying78 rfl (by rfl)) ?_
      refine LO_v rfl rfl rfl rfl (V_move rfl rfl) ?_
      refine LO_v rfl rfl rfl rfl (V_nilCheck rfl rfl) ?_
      refine LO_v rfl rfl rfl rfl (V_fieldAddr rfl rfl Tryd.underlying82 rfl sz79dm rfl) ?_
      refine LO_v rfl rfl rfl rfl (V_load1 0 rfl rfl rfl Tryd.underlying79 rfl (by rfl)) ?_
      refine LO_v rfl rfl rfl rfl (V_move rfl rfl) ?_
      refine LO_v rfl rfl rfl rfl (V_indexC rfl rfl rfl Tryd.underlying79 sz96dm (fun w hw => (hw.fa 2 rfl).1) (by omega) (by omega)) ?_
      refine LO_v rfl rfl rfl rfl (V_fieldC rfl rfl (fun w hw => nm_pos (hw.fa 2 rfl).1 hin2) Tryd.underlying96 rfl sz3dm rfl) ?_
      refine LO_v rfl rfl rfl rfl (V_loadC rfl rfl Tryd.underlying3 rfl (fun w hw => (hw.fa 2 rfl).1) (nmR_at hin2 1 _ rfl)) ?_
      refine LO_v rfl rfl rfl rfl (V_indexN rfl rfl rfl Tryd.underlying78 sz91dm hAt (by omega) (by omega)) ?_
      refine LO_v rfl rfl rfl rfl (V_loadCN (vs := rboV ((D.bo.getD ((crashS D n).getD i (e0, 0)).2 bo0), qx)) rfl rfl Tryd.underlying91 rfl (szd sz91dm (by kernel_rfl)) (fun w hw => hG.b.slC (e := 91) hw (fun p hp => List.mem_cons_of_mem _ (List.mem_append_right _ (List.mem_append_left _ hp)))) (by exact Nat.zero_lt_succ _) (rboR_at hqx)) ?_
      refine LO_s rfl rfl rfl (S_alloc rfl rfl rfl z91dm (fun b0 => ⟨Pk.app (Pk.refl _) _, (fun f hf => hf), ?_⟩))
      refine LO_pk ((b0, row 91 [.slice none 0 0, .int .i64 0]) :: (b1, row 82 (rkT D.room (pV H.qb H.bs.length) (.slice a (crashS D n).length c) (.slice none 0 0) false false D.left)) :: (pM 94 H.qc (chR D.ch) ++ (pM 91 H.qb (rboR H.bs) ++ (pM 91 qn (rboR bsn) ++ pM 96 qm (nmR (sfN (crashS D n) i)))))) (Pk.front _ _) ?_
      refine LO_s rfl rfl rfl (S_storeW 0 rfl rfl rfl rfl rfl (szd sz91dm (by kernel_rfl)) (all_one (by kernel_rfl)) (by kernel_rfl) ⟨Pk.of_sub (List.Sublist.cons _ (List.Sublist.refl _)), (fun f hf => hf), ?_⟩)
      refine LO_nil ?_
      change J _ _ _ _
      refine J_seq ?_
      refine J_region ?_
      refine L_v rfl rfl rfl (V_assign rfl rfl) ?_
      refine L_nil ?_
      change J _ _ _ _
      refine J_seq ?_
      refine J_seq ?_
      refine J_region ?_
      refine L_v rfl rfl rfl (V_move rfl rfl) ?_
      refine L_v rfl rfl rfl (V_move rfl rfl) ?_
      refine L_v rfl rfl rfl (V_len rfl rfl Tryd.underlying23 rfl) ?_
      refine L_v rfl rfl rfl (V_lss rfl rfl rfl rfl) ?_
      refine L_v rfl rfl rfl (V_move rfl rfl) ?_
      apply L_and 5 80 86
      · rfl
      · rfl
      · rfl
      · rfl
      · rfl
      · rfl
      · rfl
      · kernel_rfl
      · intro hb4 _ _ hk4
        refine L_wv rfl rfl rfl rfl rfl rfl (V_move rfl rfl) ?_
        refine L_wv rfl rfl rfl rfl rfl rfl (V_move rfl rfl) ?_
        refine L_wv rfl rfl rfl rfl rfl rfl (V_indexC rfl rfl rfl Tryd.underlying23 sz3dm (fun w hw => (hw.fa 1 rfl).1) (by omega) (by have h9 := of_decide_eq_true hb4; omega)) ?_
        refine L_wv rfl rfl rfl rfl rfl rfl (V_loadC rfl rfl Tryd.underlying3 rfl (fun w hw => (hw.fa 1 rfl).1) (rows_1 (by have h9 := of_decide_eq_true hb4; omega))) ?_
        refine L_wv rfl rfl rfl rfl rfl rfl (V_gtr rfl rfl rfl rfl) ?_
        exact hk4 _ ⟨rfl, (by first | simp only [St.put] | rfl), (by first | simp only [St.put] | rfl), (by first | simp only [St.put] | rfl), ext_cut 5 (by kernel_rfl) (by kernel_rfl)⟩
      refine L_nil ?_
      change J _ _ _ _
      refine J_cond rfl (fun h5 => ?_) (fun h5 => ?_)
      ·
        first | (have h5 := of_decide_eq_true h5) | (have h5 := of_decide_eq_false h5) | skip
        rw [Bool.and_eq_true, decide_eq_true_eq, decide_eq_true_eq] at h5
        refine J_regionQ rfl (by kernel_rfl) ?_
        refine LQ_v rfl rfl rfl (V_move rfl rfl) ?_
        refine LQ_v rfl rfl rfl (V_move rfl rfl) ?_
        refine LQ_v rfl rfl rfl (V_indexC rfl rfl rfl Tryd.underlying23 sz3dm (fun w hw => (hw.fa 1 rfl).1) (by omega) (by omega)) ?_
        refine LQ_v rfl rfl rfl (V_loadC rfl rfl Tryd.underlying3 rfl (fun w hw => (hw.fa 1 rfl).1) (rows_1 (by omega))) ?_
        refine LQ_v rfl rfl rfl (V_fieldAddr rfl rfl Tryd.underlying91 rfl sz22dm rfl) ?_
        refine LQ_v rfl rfl rfl (V_load1 0 rfl rfl rfl Tryd.underlying22 rfl (by rfl)) ?_
        refine LQ_v rfl rfl rfl (V_len rfl rfl Tryd.underlying22 rfl) ?_
        refine LQ_v rfl rfl rfl (V_fieldAddr rfl rfl Tryd.underlying91 rfl sz3dm rfl) ?_
        refine LQ_v rfl rfl rfl (V_load1 0 rfl rfl rfl Tryd.underlying3 rfl (by rfl)) ?_
        refine LQ_v rfl rfl rfl (V_sub (r := (((D.bo.getD ((crashS D n).getD i (e0, 0)).2 bo0).1.length - (D.bo.getD ((crashS D n).getD i (e0, 0)).2 bo0).2 : Nat) : Int)) rfl rfl rfl (by show IntKind.i64.wrap (((D.bo.getD ((crashS D n).getD i (e0, 0)).2 bo0).1.length : Int) - ((D.bo.getD ((crashS D n).getD i (e0, 0)).2 bo0).2 : Int)) = _; rw [IntKind.wrap_i64]; omega)) ?_
        refine LQ_v rfl rfl rfl (V_min (r := (((tailK (D.bo.getD ((crashS D n).getD i (e0, 0)).2 bo0) tl i) : Nat) : Int)) rfl rfl rfl (by rw [tailK_T (by omega)]; show (if (((D.bo.getD ((crashS D n).getD i (e0, 0)).2 bo0).1.length - (D.bo.getD ((crashS D n).getD i (e0, 0)).2 bo0).2 : Nat) : Int) < tl.getD i 0 then _ else _) = _; split <;> omega)) ?_
        refine LQ_v rfl rfl rfl (V_assign rfl rfl) ?_
        refine LQ_nil ?_
        change J _ _ _ _
        refine J_seq ?_
        refine J_region ?_
        refine L_v rfl rfl rfl (V_assign rfl rfl) ?_
        refine L_nil ?_
        change J _ _ _ _
        refine J_seq ?_
        refine J_region ?_
        refine L_v rfl rfl rfl (V_move rfl rfl) ?_
        refine L_v rfl rfl rfl (V_fieldAddr rfl rfl Tryd.underlying91 rfl sz22dm rfl) ?_
        refine L_v rfl rfl rfl (V_load1 0 rfl rfl rfl Tryd.underlying22 rfl (by rfl)) ?_
        refine L_v rfl rfl rfl (V_fieldAddr rfl rfl Tryd.underlying91 rfl sz3dm rfl) ?_
        refine L_v rfl rfl rfl (V_load1 0 rfl rfl rfl Tryd.underlying3 rfl (by rfl)) ?_
        refine L_v rfl rfl rfl (V_move rfl rfl) ?_
        refine L_v rfl rfl rfl (V_add (r := ((((D.bo.getD ((crashS D n).getD i (e0, 0)).2 bo0).2 + (tailK (D.bo.getD ((crashS D n).getD i (e0, 0)).2 bo0) tl i)) : Nat) : Int)) rfl rfl rfl (by show IntKind.i64.wrap (((D.bo.getD ((crashS D n).getD i (e0, 0)).2 bo0).2 : Int) + (((tailK (D.bo.getD ((crashS D n).getD i (e0, 0)).2 bo0) tl i) : Nat) : Int)) = _; rw [IntKind.wrap_i64]; omega)) ?_
        refine L_v rfl rfl rfl (V_slice0 (h := ((D.bo.getD ((crashS D n).getD i (e0, 0)).2 bo0).2 + (tailK (D.bo.getD ((crashS D n).getD i (e0, 0)).2 bo0) tl i))) rfl rfl Tryd.underlying22 sz5dm (Bd.at rfl rfl) rfl rfl (show _ ≤ qx.2 by omega) (Nat.le_refl _)) ?_
        refine L_cons rfl (S_appendP (e := 5) ((b0, row 91 (rboV ((D.bo.getD ((crashS D n).getD i (e0, 0)).2 bo0), qx))) :: (b1, row 82 (rkT D.room (pV H.qb H.bs.length) (.slice a (crashS D n).length c) (.slice none 0 0) false false D.left)) :: (pM 94 H.qc (chR D.ch) ++ (pM 91 H.qb (rboR H.bs) ++ (pM 91 qn (rboR bsn) ++ pM 96 qm (nmR (sfN (crashS D n) i)))))) [] none [] (n := 0) (m := ((D.bo.getD ((crashS D n).getD i (e0, 0)).2 bo0).2 + (tailK (D.bo.getD ((crashS D n).getD i (e0, 0)).2 bo0) tl i))) (news := dg (tkB D n tl i)) rfl rfl rfl rfl Tryd.underlying22 elU (List.append_nil _).symm ⟨rfl, rfl⟩ (fun w1 hw => src_bytes' Tryd.underlying22 (SlB.take (FA.of (FA.r (f := nmF H.sa H.sc D.sf) (hw.fa 0 rfl)) hinx).1 ht2 _) hl2) (by omega) (by omega) (fun q2 hq2 => ?_))
        refine L_v rfl rfl rfl (V_assign rfl rfl) ?_
        refine L_nil ?_
        change J _ _ _ _
        refine J_seq ?_
        refine J_seq ?_
        rw [Nat.zero_add, List.nil_append] at hq2
        refine J_le (st' := { env := [(0, .pointer (some ⟨b1, 0, none⟩)), (2, .slice at_ tl.length ct), (3, .int .u8 z), (9, pV qn bsn.length), (10, pV qm i), (11, .int .i64 (i : Int)), (13, .int .i64 (((tailK (D.bo.getD ((crashS D n).getD i (e0, 0)).2 bo0) tl i) : Nat) : Int)), (14, pV q2 ((D.bo.getD ((crashS D n).getD i (e0, 0)).2 bo0).2 + (tailK (D.bo.getD ((crashS D n).getD i (e0, 0)).2 bo0) tl i)))], mem := ((b0, row 91 (rboV ((D.bo.getD ((crashS D n).getD i (e0, 0)).2 bo0), qx))) :: (b1, row 82 (rkT D.room (pV H.qb H.bs.length) (.slice a (crashS D n).length c) (.slice none 0 0) false false D.left)) :: (pM 94 H.qc (chR D.ch) ++ (pM 91 H.qb (rboR H.bs) ++ (pM 91 qn (rboR bsn) ++ pM 96 qm (nmR (sfN (crashS D n) i)))))) ++ pM 5 q2 (dg (tkB D n tl i)), facts := [rkF D H, factC 1 (.slice at_ tl.length ct) tl.length (intV tl), nmF a c (crashS D n), allF (bsn.map rbF)] }) ⟨⟨rfl, rfl, rfl, rfl, rfl, rfl, rfl, (by show some (pV q2 (0 + ((D.bo.getD ((crashS D n).getD i (e0, 0)).2 bo0).2 + (tailK (D.bo.getD ((crashS D n).getD i (e0, 0)).2 bo0) tl i)))) = some (pV q2 ((D.bo.getD ((crashS D n).getD i (e0, 0)).2 bo0).2 + (tailK (D.bo.getD ((crashS D n).getD i (e0, 0)).2 bo0) tl i))); rw [Nat.zero_add]), trivial⟩, (by show List.Sublist _ (_ ++ (_ ++ [])); rw [List.append_nil]; exact List.Sublist.refl _), fun f hf => hf, rfl⟩ ?_
        refine J_region ?_
        refine L_v rfl rfl rfl (V_move rfl rfl) ?_
        refine L_v rfl rfl rfl (V_gtr rfl rfl rfl rfl) ?_
        refine L_nil ?_
        change J _ _ _ _
        refine J_cond rfl (fun h6 => ?_) (fun h6 => ?_)
        ·
          first | (have h6 := of_decide_eq_true h6) | (have h6 := of_decide_eq_false h6) | skip
          have hA2 : ∃ b off, pA q2 = some ⟨b, off, none⟩ := hq2.at (by omega)
          refine J_region ?_
          refine L_v rfl rfl rfl (V_move rfl rfl) ?_
          refine L_v rfl rfl rfl (V_move rfl rfl) ?_
          refine L_v rfl rfl rfl (V_len rfl rfl Tryd.underlying22 rfl) ?_
          refine L_v rfl rfl rfl (V_sub (r := ((((D.bo.getD ((crashS D n).getD i (e0, 0)).2 bo0).2 + (tailK (D.bo.getD ((crashS D n).getD i (e0, 0)).2 bo0) tl i)) - 1 : Nat) : Int)) rfl rfl rfl (by show IntKind.i64.wrap (((((D.bo.getD ((crashS D n).getD i (e0, 0)).2 bo0).2 + (tailK (D.bo.getD ((crashS D n).getD i (e0, 0)).2 bo0) tl i)) : Nat) : Int) - 1) = _; rw [IntKind.wrap_i64]; omega)) ?_
          refine L_v rfl rfl rfl (V_move rfl rfl) ?_
          refine L_v rfl rfl rfl (V_move rfl rfl) ?_
          refine L_v rfl rfl rfl (V_len rfl rfl Tryd.underlying22 rfl) ?_
          refine L_v rfl rfl rfl (V_sub (r := ((((D.bo.getD ((crashS D n).getD i (e0, 0)).2 bo0).2 + (tailK (D.bo.getD ((crashS D n).getD i (e0, 0)).2 bo0) tl i)) - 1 : Nat) : Int)) rfl rfl rfl (by show IntKind.i64.wrap (((((D.bo.getD ((crashS D n).getD i (e0, 0)).2 bo0).2 + (tailK (D.bo.getD ((crashS D n).getD i (e0, 0)).2 bo0) tl i)) : Nat) : Int) - 1) = _; rw [IntKind.wrap_i64]; omega)) ?_
          refine L_v rfl rfl rfl (V_indexN rfl rfl rfl Tryd.underlying22 sz5dm hA2 (by omega) (by omega)) ?_
          refine L_v rfl rfl rfl (V_loadC rfl rfl Tryd.underlying5 rfl (fun w hw => hq2.slC (e := 5) hw (fun p hp => List.mem_append_right _ hp)) (dg_at (by omega))) ?_
          refine L_v rfl rfl rfl (V_move rfl rfl) ?_
          refine L_v rfl rfl rfl (V_xor rfl rfl rfl rfl) ?_
          refine L_v rfl rfl rfl (V_indexN rfl rfl rfl Tryd.underlying22 sz5dm hA2 (by omega) (by omega)) ?_
          refine L_cons rfl (S_storeP (e := 5) ((b0, row 91 (rboV ((D.bo.getD ((crashS D n).getD i (e0, 0)).2 bo0), qx))) :: (b1, row 82 (rkT D.room (pV H.qb H.bs.length) (.slice a (crashS D n).length c) (.slice none 0 0) false false D.left)) :: (pM 94 H.qc (chR D.ch) ++ (pM 91 H.qb (rboR H.bs) ++ (pM 91 qn (rboR bsn) ++ pM 96 qm (nmR (sfN (crashS D n) i)))))) [] q2 (dg (tkB D n tl i)) rfl rfl rfl rfl (by show _ ++ _ = _ ++ (_ ++ []); rw [List.append_nil]) hq2 (by rw [dg_length, hl2]; omega) rfl sz5dm ?_)
          refine L_nil ?_
          change J _ _ _ _
          refine J_seq ?_
          refine J_pk (((b0, row 91 (rboV ((D.bo.getD ((crashS D n).getD i (e0, 0)).2 bo0), qx))) :: (b1, row 82 (rkT D.room (pV H.qb H.bs.length) (.slice a (crashS D n).length c) (.slice none 0 0) false false D.left)) :: (pM 94 H.qc (chR D.ch) ++ (pM 91 H.qb (rboR H.bs) ++ (pM 91 qn (rboR bsn) ++ pM 96 qm (nmR (sfN (crashS D n) i)))))) ++ pM 5 q2 (dg (leftB (D.bo.getD ((crashS D n).getD i (e0, 0)).2 bo0) (tailK (D.bo.getD ((crashS D n).getD i (e0, 0)).2 bo0) tl i) z))) (Pk.of_sub (by rw [leftB_1 _ _ (by omega), ← dg_xor, hl2]; show List.Sublist _ (_ ++ (pM _ _ ((dg _).set ((((D.bo.getD ((crashS D n).getD i (e0, 0)).2 bo0).2 + (tailK (D.bo.getD ((crashS D n).getD i (e0, 0)).2 bo0) tl i)) - 1) * (0 + 1)) _) ++ [])); rw [List.append_nil, Nat.zero_add, Nat.mul_one]; exact List.Sublist.refl _)) ?_
          refine J_le (st' := { env := [(0, .pointer (some ⟨b1, 0, none⟩)), (2, .slice at_ tl.length ct), (3, .int .u8 z), (9, pV qn bsn.length), (10, pV qm i), (11, .int .i64 (i : Int)), (14, pV q2 ((D.bo.getD ((crashS D n).getD i (e0, 0)).2 bo0).2 + (tailK (D.bo.getD ((crashS D n).getD i (e0, 0)).2 bo0) tl i)))], mem := ((b1, row 82 (rkT D.room (pV H.qb H.bs.length) (.slice a (crashS D n).length c) (.slice none 0 0) false false D.left)) :: (pM 94 H.qc (chR D.ch) ++ (pM 91 H.qb (rboR H.bs) ++ (pM 91 qn (rboR bsn) ++ pM 96 qm (nmR (sfN (crashS D n) i)))))) ++ pM 5 q2 (dg (leftB (D.bo.getD ((crashS D n).getD i (e0, 0)).2 bo0) (tailK (D.bo.getD ((crashS D n).getD i (e0, 0)).2 bo0) tl i) z)), facts := [rkF D H, factC 1 (.slice at_ tl.length ct) tl.length (intV tl), nmF a c (crashS D n), allF (bsn.map rbF)] }) ⟨⟨rfl, rfl, rfl, rfl, rfl, rfl, rfl, trivial⟩, (List.Sublist.cons _ (List.Sublist.refl _)), fun f hf => hf, rfl⟩ ?_
          refine J_region ?_
          refine L_v rfl rfl rfl (V_move rfl rfl) ?_
          refine L_v rfl rfl rfl (V_move rfl rfl) ?_
          refine L_v rfl rfl rfl (V_move rfl rfl) ?_
          refine L_v rfl rfl rfl (V_len rfl rfl Tryd.underlying22 rfl) ?_
          refine L_v rfl rfl rfl (V_buildE (v := .agg ([pV q2 ((D.bo.getD ((crashS D n).getD i (e0, 0)).2 bo0).2 + (tailK (D.bo.getD ((crashS D n).getD i (e0, 0)).2 bo0) tl i)), .int .i64 ((((D.bo.getD ((crashS D n).getD i (e0, 0)).2 bo0).2 + (tailK (D.bo.getD ((crashS D n).getD i (e0, 0)).2 bo0) tl i)) : Nat) : Int)]).toArray) rfl rfl (fun w => by kernel_rfl)) ?_
          refine L_buildSlice (e := 91) (vs := [(0, .agg [pV q2 ((D.bo.getD ((crashS D n).getD i (e0, 0)).2 bo0).2 + (tailK (D.bo.getD ((crashS D n).getD i (e0, 0)).2 bo0) tl i)), .int .i64 ((((D.bo.getD ((crashS D n).getD i (e0, 0)).2 bo0).2 + (tailK (D.bo.getD ((crashS D n).getD i (e0, 0)).2 bo0) tl i)) : Nat) : Int)].toArray)]) (l := [pV q2 ((D.bo.getD ((crashS D n).getD i (e0, 0)).2 bo0).2 + (tailK (D.bo.getD ((crashS D n).getD i (e0, 0)).2 bo0) tl i)), .int .i64 ((((D.bo.getD ((crashS D n).getD i (e0, 0)).2 bo0).2 + (tailK (D.bo.getD ((crashS D n).getD i (e0, 0)).2 bo0) tl i)) : Nat) : Int)]) rfl rfl rfl rfl rfl (bsRK _ _ _) (fun b9 => ?_)
          refine L_cons rfl (S_appendP (e := 91) ((b1, row 82 (rkT D.room (pV H.qb H.bs.length) (.slice a (crashS D n).length c) (.slice none 0 0) false false D.left)) :: (pM 94 H.qc (chR D.ch) ++ pM 91 H.qb (rboR H.bs))) ((pM 96 qm (nmR (sfN (crashS D n) i)) ++ pM 5 q2 (dg (leftB (D.bo.getD ((crashS D n).getD i (e0, 0)).2 bo0) (tailK (D.bo.getD ((crashS D n).getD i (e0, 0)).2 bo0) tl i) z))) ++ [(b9, row 91 [pV q2 ((D.bo.getD ((crashS D n).getD i (e0, 0)).2 bo0).2 + (tailK (D.bo.getD ((crashS D n).getD i (e0, 0)).2 bo0) tl i)), .int .i64 ((((D.bo.getD ((crashS D n).getD i (e0, 0)).2 bo0).2 + (tailK (D.bo.getD ((crashS D n).getD i (e0, 0)).2 bo0) tl i)) : Nat) : Int)])]) qn (rboR bsn) (n := bsn.length) (m := 1) (news := [pV q2 ((D.bo.getD ((crashS D n).getD i (e0, 0)).2 bo0).2 + (tailK (D.bo.getD ((crashS D n).getD i (e0, 0)).2 bo0) tl i)), .int .i64 ((((D.bo.getD ((crashS D n).getD i (e0, 0)).2 bo0).2 + (tailK (D.bo.getD ((crashS D n).getD i (e0, 0)).2 bo0) tl i)) : Nat) : Int)]) rfl rfl rfl rfl Tryd.underlying78 elRB (by show ((_ :: (_ ++ (_ ++ (_ ++ _)))) ++ _) ++ [_] = _; simp only [List.cons_append, List.append_assoc, List.nil_append]) hqn (fun w1 hw => src_C Tryd.underlying78 (SlC.in (r := []) (fz := (0, 0)) hw (List.mem_append_right _ (List.mem_singleton.2 rfl)) rfl 1) (all_one (by kernel_rfl))) (by omega) (by omega) (fun q' hq' => ?_))
          refine L_v rfl rfl rfl (V_assign rfl rfl) ?_
          refine L_nil ?_
          change J _ _ _ _
          have hlb : (leftB (D.bo.getD ((crashS D n).getD i (e0, 0)).2 bo0) (tailK (D.bo.getD ((crashS D n).getD i (e0, 0)).2 bo0) tl i) z).length = ((D.bo.getD ((crashS D n).getD i (e0, 0)).2 bo0).2 + (tailK (D.bo.getD ((crashS D n).getD i (e0, 0)).2 bo0) tl i)) := leftB_len _ _ _ ht2
          have e8 : rboR bsn ++ [pV q2 ((D.bo.getD ((crashS D n).getD i (e0, 0)).2 bo0).2 + (tailK (D.bo.getD ((crashS D n).getD i (e0, 0)).2 bo0) tl i)), .int .i64 ((((D.bo.getD ((crashS D n).getD i (e0, 0)).2 bo0).2 + (tailK (D.bo.getD ((crashS D n).getD i (e0, 0)).2 bo0) tl i)) : Nat) : Int)] = rboR (bsn ++ [((((leftB (D.bo.getD ((crashS D n).getD i (e0, 0)).2 bo0) (tailK (D.bo.getD ((crashS D n).getD i (e0, 0)).2 bo0) tl i) z), (leftB (D.bo.getD ((crashS D n).getD i (e0, 0)).2 bo0) (tailK (D.bo.getD ((crashS D n).getD i (e0, 0)).2 bo0) tl i) z).length), (pA q2, pC q2)) : RB)]) := by rw [rboR_app, ← hlb]; rfl
          have hq2' : PC 1 q2 (leftB (D.bo.getD ((crashS D n).getD i (e0, 0)).2 bo0) (tailK (D.bo.getD ((crashS D n).getD i (e0, 0)).2 bo0) tl i) z).length (dg (leftB (D.bo.getD ((crashS D n).getD i (e0, 0)).2 bo0) (tailK (D.bo.getD ((crashS D n).getD i (e0, 0)).2 bo0) tl i) z)) := by
            rw [hlb]
            rcases q2 with _ | ⟨g2, p2, c2, r2⟩
            · have := hq2.1
              refine ⟨this, List.length_eq_zero_iff.1 (by rw [dg_length, hlb]; exact this)⟩
            · exact ⟨by rw [dg_length, hlb, Nat.mul_one], hq2.2⟩
          rw [e8] at hq'
          refine J_pk (((b1, row 82 (rkT D.room (pV H.qb H.bs.length) (.slice a (crashS D n).length c) (.slice none 0 0) false false D.left)) :: (pM 94 H.qc (chR D.ch) ++ (pM 91 H.qb (rboR H.bs) ++ (pM 91 q' (rboR (bsn ++ [((((leftB (D.bo.getD ((crashS D n).getD i (e0, 0)).2 bo0) (tailK (D.bo.getD ((crashS D n).getD i (e0, 0)).2 bo0) tl i) z), (leftB (D.bo.getD ((crashS D n).getD i (e0, 0)).2 bo0) (tailK (D.bo.getD ((crashS D n).getD i (e0, 0)).2 bo0) tl i) z).length), (pA q2, pC q2)) : RB)])) ++ pM 96 qm (nmR (sfN (crashS D n) i)))))) ++ pM 5 q2 (dg (leftB (D.bo.getD ((crashS D n).getD i (e0, 0)).2 bo0) (tailK (D.bo.getD ((crashS D n).getD i (e0, 0)).2 bo0) tl i) z))) (Pk.of_sub (by rw [← e8]; show List.Sublist ((_ :: (_ ++ (_ ++ (_ ++ _)))) ++ _) ((_ :: (_ ++ _)) ++ (_ ++ ((_ ++ _) ++ [_]))); simp only [List.cons_append, List.append_assoc, List.nil_append]; exact List.Sublist.cons_cons _ (List.Sublist.append (List.Sublist.refl _) (List.Sublist.append (List.Sublist.refl _) (List.Sublist.append (List.Sublist.refl _) (List.Sublist.append (List.Sublist.refl _) (List.sublist_append_left _ _))))))) ?_
          refine J_toFactQ (sz := 1) (n := (leftB (D.bo.getD ((crashS D n).getD i (e0, 0)).2 bo0) (tailK (D.bo.getD ((crashS D n).getD i (e0, 0)).2 bo0) tl i) z).length) ((b1, row 82 (rkT D.room (pV H.qb H.bs.length) (.slice a (crashS D n).length c) (.slice none 0 0) false false D.left)) :: (pM 94 H.qc (chR D.ch) ++ (pM 91 H.qb (rboR H.bs) ++ (pM 91 q' (rboR (bsn ++ [((((leftB (D.bo.getD ((crashS D n).getD i (e0, 0)).2 bo0) (tailK (D.bo.getD ((crashS D n).getD i (e0, 0)).2 bo0) tl i) z), (leftB (D.bo.getD ((crashS D n).getD i (e0, 0)).2 bo0) (tailK (D.bo.getD ((crashS D n).getD i (e0, 0)).2 bo0) tl i) z).length), (pA q2, pC q2)) : RB)])) ++ pM 96 qm (nmR (sfN (crashS D n) i)))))) q2 (dg (leftB (D.bo.getD ((crashS D n).getD i (e0, 0)).2 bo0) (tailK (D.bo.getD ((crashS D n).getD i (e0, 0)).2 bo0) tl i) z)) rfl hq2' (fun hnew => ?_)
          have hob' : ON [rkF D H] w.heap.size (allF ((bsn ++ [((((leftB (D.bo.getD ((crashS D n).getD i (e0, 0)).2 bo0) (tailK (D.bo.getD ((crashS D n).getD i (e0, 0)).2 bo0) tl i) z), (leftB (D.bo.getD ((crashS D n).getD i (e0, 0)).2 bo0) (tailK (D.bo.getD ((crashS D n).getD i (e0, 0)).2 bo0) tl i) z).length), (pA q2, pC q2)) : RB)]).map rbF)) := fun k hk => by
            obtain ⟨f, hf, hk⟩ := hk
            rw [List.map_append] at hf
            rcases List.mem_append.1 hf with h1 | h1
            · exact hob k ⟨f, h1, hk⟩
            · obtain rfl := List.mem_singleton.1 h1
              obtain ⟨h2, h3⟩ := hnew k (factB_C hk)
              refine .inr (h2.resolve_right fun h4 => h3 ?_)
              have h4 : k ∈ (rkM b1 D H).map (·.1) := h4
              show k ∈ (_ :: (_ ++ (_ ++ _))).map _
              rw [List.map_cons, List.map_append, List.map_append, ← List.append_assoc]
              have h5 : (rkM b1 D H).map (·.1) = b1 :: ((pM 94 H.qc (chR D.ch)).map (·.1) ++ (pM 91 H.qb (rboR H.bs)).map (·.1)) := by show b1 :: List.map _ (_ ++ _) = _; rw [List.map_append]
              rw [h5] at h4
              rcases List.mem_cons.1 h4 with h6 | h6
              · exact List.mem_cons.2 (.inl h6)
              · exact List.mem_cons_of_mem _ (List.mem_append_left _ h6)
          refine J_deriv (allF ((bsn ++ [((((leftB (D.bo.getD ((crashS D n).getD i (e0, 0)).2 bo0) (tailK (D.bo.getD ((crashS D n).getD i (e0, 0)).2 bo0) tl i) z), (leftB (D.bo.getD ((crashS D n).getD i (e0, 0)).2 bo0) (tailK (D.bo.getD ((crashS D n).getD i (e0, 0)).2 bo0) tl i) z).length), (pA q2, pC q2)) : RB)]).map rbF)) (fun w hw f hf => by
            rw [List.map_append] at hf
            rcases List.mem_append.1 hf with h1 | h1
            · exact (hw.fa 3 rfl).1 f h1
            · obtain rfl := List.mem_singleton.1 h1
              exact SlC.toB' (hw.fa 4 rfl).1) (fun k hk => by
            obtain ⟨f, hf, hk⟩ := hk
            rw [List.map_append] at hf
            rcases List.mem_append.1 hf with h1 | h1
            · exact ⟨allF (bsn.map rbF), List.mem_append_left _ (List.mem_cons_of_mem _ (List.mem_cons_of_mem _ (List.mem_cons_of_mem _ (List.mem_cons_self ..)))), f, h1, hk⟩
            · obtain rfl := List.mem_singleton.1 h1
              exact ⟨_, List.mem_append_right _ (List.mem_singleton.2 rfl), factB_C hk⟩) ?_
          refine J_region ?_
          refine L_v rfl rfl rfl (V_move rfl rfl) ?_
          refine L_v rfl rfl rfl (V_move rfl rfl) ?_
          refine L_v rfl rfl rfl (V_nilCheck rfl rfl) ?_
          refine L_v rfl rfl rfl (V_fieldAddr rfl rfl Tryd.underlying82 rfl sz79dm rfl) ?_
          refine L_v rfl rfl rfl (V_load1 0 rfl rfl rfl Tryd.underlying79 rfl (by rfl)) ?_
          refine L_v rfl rfl rfl (V_move rfl rfl) ?_
          refine L_v rfl rfl rfl (V_indexC rfl rfl rfl Tryd.underlying79 sz96dm (fun w hw => (hw.fa 2 rfl).1) (by omega) (by omega)) ?_
          refine L_v rfl rfl rfl (V_fieldC rfl rfl (fun w hw => nm_pos (hw.fa 2 rfl).1 hin2) Tryd.underlying96 rfl sz9dm rfl) ?_
          refine L_v rfl rfl rfl (V_loadC rfl rfl Tryd.underlying9 rfl (fun w hw => (hw.fa 2 rfl).1) (nmR_at hin2 0 _ rfl)) ?_
          refine L_v rfl rfl rfl (V_move rfl rfl) ?_
          refine L_v rfl rfl rfl (V_buildE (v := .agg (nmC (((crashS D n).getD i (e0, 0)).1, i)).toArray) rfl rfl (fun w => by kernel_rfl)) ?_
          refine L_buildSlice (e := 96) (vs := [(0, .agg (nmC (((crashS D n).getD i (e0, 0)).1, i)).toArray)]) (l := nmC (((crashS D n).getD i (e0, 0)).1, i)) rfl rfl rfl rfl rfl (bsN _) (fun b8 => ?_)
          refine L_cons rfl (S_appendP (e := 96) ((b1, row 82 (rkT D.room (pV H.qb H.bs.length) (.slice a (crashS D n).length c) (.slice none 0 0) false false D.left)) :: (pM 94 H.qc (chR D.ch) ++ (pM 91 H.qb (rboR H.bs) ++ pM 91 q' (rboR (bsn ++ [((((leftB (D.bo.getD ((crashS D n).getD i (e0, 0)).2 bo0) (tailK (D.bo.getD ((crashS D n).getD i (e0, 0)).2 bo0) tl i) z), (leftB (D.bo.getD ((crashS D n).getD i (e0, 0)).2 bo0) (tailK (D.bo.getD ((crashS D n).getD i (e0, 0)).2 bo0) tl i) z).length), (pA q2, pC q2)) : RB)]))))) [(b8, row 96 (nmC (((crashS D n).getD i (e0, 0)).1, i)))] qm (nmR (sfN (crashS D n) i)) (n := i) (m := 1) (news := nmC (((crashS D n).getD i (e0, 0)).1, i)) rfl rfl rfl rfl Tryd.underlying79 elN (by show (_ :: (_ ++ (_ ++ (_ ++ _)))) ++ [_] = _; simp only [List.cons_append, List.append_assoc, List.nil_append]) hqm (fun w1 hw => src_C Tryd.underlying79 (SlC.in (r := []) (fz := (0, 0)) hw (List.mem_append_right _ (List.mem_singleton.2 rfl)) rfl 1) (all_one (by kernel_rfl))) (by omega) (by omega) (fun qm' hqm' => ?_))
          refine L_v rfl rfl rfl (V_assign rfl rfl) ?_
          refine L_nil ?_
          change J _ _ _ _
          refine J_region ?_
          refine L_v rfl rfl rfl (V_move rfl rfl) ?_
          refine L_v rfl rfl rfl (V_add (r := ((i + 1 : Nat) : Int)) rfl rfl rfl (by rw [IntKind.wrap_i64]; omega)) ?_
          refine L_v rfl rfl rfl (V_assign rfl rfl) ?_
          refine L_nil ?_
          have e6 := sfN_s hin2
          have e5 : nmR (sfN (crashS D n) (i + 1)) = nmR (sfN (crashS D n) i) ++ nmC (((crashS D n).getD i (e0, 0)).1, i) := by rw [e6, nmR_app]; rfl
          rw [← e5] at hqm'
          exact ⟨(i + 1, q', bsn ++ [((((leftB (D.bo.getD ((crashS D n).getD i (e0, 0)).2 bo0) (tailK (D.bo.getD ((crashS D n).getD i (e0, 0)).2 bo0) tl i) z), (leftB (D.bo.getD ((crashS D n).getD i (e0, 0)).2 bo0) (tailK (D.bo.getD ((crashS D n).getD i (e0, 0)).2 bo0) tl i) z).length), (pA q2, pC q2)) : RB)], qm'), ⟨by show i + 1 ≤ _; omega, by show PC 2 q' (bsn ++ [_]).length _; rw [List.length_append]; exact hq', by show (bsn ++ [_]).length = i + 1; rw [List.length_append, hbl2]; rfl, rcrash_bs hbs rfl, fun y hy => (List.mem_append.1 hy).elim (hcp y) (fun h => by obtain rfl := List.mem_singleton.1 h; exact hq2'.le), hqm', hob'⟩, by show (crashS D n).length - (i + 1) < (crashS D n).length - i; omega,
            ⟨rfl, rfl, rfl, (by show _ = some (pV q' (bsn ++ [_]).length); rw [List.length_append]; rfl), rfl, rfl, trivial⟩, (by
              show List.Sublist ((b1, row 82 (rkT D.room (pV H.qb H.bs.length) (.slice a (crashS D n).length c) (.slice none 0 0) false false D.left)) :: (pM 94 H.qc (chR D.ch) ++ (pM 91 H.qb (rboR H.bs) ++ (pM 91 q' (rboR (bsn ++ [((((leftB (D.bo.getD ((crashS D n).getD i (e0, 0)).2 bo0) (tailK (D.bo.getD ((crashS D n).getD i (e0, 0)).2 bo0) tl i) z), (leftB (D.bo.getD ((crashS D n).getD i (e0, 0)).2 bo0) (tailK (D.bo.getD ((crashS D n).getD i (e0, 0)).2 bo0) tl i) z).length), (pA q2, pC q2)) : RB)])) ++ pM 96 qm' (nmR (sfN (crashS D n) (i + 1))))))) _
              rw [e5]
              show List.Sublist (_ :: (_ ++ (_ ++ (_ ++ _)))) ((_ :: (_ ++ (_ ++ _))) ++ (_ ++ [_]))
              simp only [List.cons_append, List.append_assoc, List.nil_append]
              exact List.Sublist.cons_cons _ (List.Sublist.append (List.Sublist.refl _) (List.Sublist.append (List.Sublist.refl _) (List.Sublist.append (List.Sublist.refl _) (List.sublist_append_left _ _))))), (fun f hf => by
              have hf : f ∈ [rkF D H, factC 1 (.slice at_ tl.length ct) tl.length (intV tl), nmF a c (crashS D n), allF ((bsn ++ [((((leftB (D.bo.getD ((crashS D n).getD i (e0, 0)).2 bo0) (tailK (D.bo.getD ((crashS D n).getD i (e0, 0)).2 bo0) tl i) z), (leftB (D.bo.getD ((crashS D n).getD i (e0, 0)).2 bo0) (tailK (D.bo.getD ((crashS D n).getD i (e0, 0)).2 bo0) tl i) z).length), (pA q2, pC q2)) : RB)]).map rbF)] := hf
              simp only [List.mem_cons, List.not_mem_nil, or_false] at hf
              rcases hf with rfl | rfl | rfl | rfl
              · exact List.mem_append_left _ (List.mem_append_left _ (List.mem_cons_self ..))
              · exact List.mem_append_left _ (List.mem_append_left _ (List.mem_cons_of_mem _ (List.mem_cons_self ..)))
              · exact List.mem_append_left _ (List.mem_append_left _ (List.mem_cons_of_mem _ (List.mem_cons_of_mem _ (List.mem_cons_self ..))))
              · exact List.mem_append_right _ (List.mem_singleton.2 rfl)), rfl⟩
        ·
          first | (have h6 := of_decide_eq_true h6) | (have h6 := of_decide_eq_false h6) | skip
          refine J_skip ?_
          change J _ _ _ _
          refine J_seq ?_
          refine J_pk (((b0, row 91 (rboV ((D.bo.getD ((crashS D n).getD i (e0, 0)).2 bo0), qx))) :: (b1, row 82 (rkT D.room (pV H.qb H.bs.length) (.slice a (crashS D n).length c) (.slice none 0 0) false false D.left)) :: (pM 94 H.qc (chR D.ch) ++ (pM 91 H.qb (rboR H.bs) ++ (pM 91 qn (rboR bsn) ++ pM 96 qm (nmR (sfN (crashS D n) i)))))) ++ pM 5 q2 (dg (leftB (D.bo.getD ((crashS D n).getD i (e0, 0)).2 bo0) (tailK (D.bo.getD ((crashS D n).getD i (e0, 0)).2 bo0) tl i) z))) (Pk.of_sub (by rw [leftB_0 _ _ (by omega)]; exact List.Sublist.refl _)) ?_
          refine J_le (st' := { env := [(0, .pointer (some ⟨b1, 0, none⟩)), (2, .slice at_ tl.length ct), (3, .int .u8 z), (9, pV qn bsn.length), (10, pV qm i), (11, .int .i64 (i : Int)), (14, pV q2 ((D.bo.getD ((crashS D n).getD i (e0, 0)).2 bo0).2 + (tailK (D.bo.getD ((crashS D n).getD i (e0, 0)).2 bo0) tl i)))], mem := ((b1, row 82 (rkT D.room (pV H.qb H.bs.length) (.slice a (crashS D n).length c) (.slice none 0 0) false false D.left)) :: (pM 94 H.qc (chR D.ch) ++ (pM 91 H.qb (rboR H.bs) ++ (pM 91 qn (rboR bsn) ++ pM 96 qm (nmR (sfN (crashS D n) i)))))) ++ pM 5 q2 (dg (leftB (D.bo.getD ((crashS D n).getD i (e0, 0)).2 bo0) (tailK (D.bo.getD ((crashS D n).getD i (e0, 0)).2 bo0) tl i) z)), facts := [rkF D H, factC 1 (.slice at_ tl.length ct) tl.length (intV tl), nmF a c (crashS D n), allF (bsn.map rbF)] }) ⟨⟨rfl, rfl, rfl, rfl, rfl, rfl, rfl, trivial⟩, (List.Sublist.cons _ (List.Sublist.refl _)), fun f hf => hf, rfl⟩ ?_
          refine J_region ?_
          refine L_v rfl rfl rfl (V_move rfl rfl) ?_
          refine L_v rfl rfl rfl (V_move rfl rfl) ?_
          refine L_v rfl rfl rfl (V_move rfl rfl) ?_
          refine L_v rfl rfl rfl (V_len rfl rfl Tryd.underlying22 rfl) ?_
          refine L_v rfl rfl rfl (V_buildE (v := .agg ([pV q2 ((D.bo.getD ((crashS D n).getD i (e0, 0)).2 bo0).2 + (tailK (D.bo.getD ((crashS D n).getD i (e0, 0)).2 bo0) tl i)), .int .i64 ((((D.bo.getD ((crashS D n).getD i (e0, 0)).2 bo0).2 + (tailK (D.bo.getD ((crashS D n).getD i (e0, 0)).2 bo0) tl i)) : Nat) : Int)]).toArray) rfl rfl (fun w => by kernel_rfl)) ?_
          refine L_buildSlice (e := 91) (vs := [(0, .agg [pV q2 ((D.bo.getD ((crashS D n).getD i (e0, 0)).2 bo0).2 + (tailK (D.bo.getD ((crashS D n).getD i (e0, 0)).2 bo0) tl i)), .int .i64 ((((D.bo.getD ((crashS D n).getD i (e0, 0)).2 bo0).2 + (tailK (D.bo.getD ((crashS D n).getD i (e0, 0)).2 bo0) tl i)) : Nat) : Int)].toArray)]) (l := [pV q2 ((D.bo.getD ((crashS D n).getD i (e0, 0)).2 bo0).2 + (tailK (D.bo.getD ((crashS D n).getD i (e0, 0)).2 bo0) tl i)), .int .i64 ((((D.bo.getD ((crashS D n).getD i (e0, 0)).2 bo0).2 + (tailK (D.bo.getD ((crashS D n).getD i (e0, 0)).2 bo0) tl i)) : Nat) : Int)]) rfl rfl rfl rfl rfl (bsRK _ _ _) (fun b9 => ?_)
          refine L_cons rfl (S_appendP (e := 91) ((b1, row 82 (rkT D.room (pV H.qb H.bs.length) (.slice a (crashS D n).length c) (.slice none 0 0) false false D.left)) :: (pM 94 H.qc (chR D.ch) ++ pM 91 H.qb (rboR H.bs))) ((pM 96 qm (nmR (sfN (crashS D n) i)) ++ pM 5 q2 (dg (leftB (D.bo.getD ((crashS D n).getD i (e0, 0)).2 bo0) (tailK (D.bo.getD ((crashS D n).getD i (e0, 0)).2 bo0) tl i) z))) ++ [(b9, row 91 [pV q2 ((D.bo.getD ((crashS D n).getD i (e0, 0)).2 bo0).2 + (tailK (D.bo.getD ((crashS D n).getD i (e0, 0)).2 bo0) tl i)), .int .i64 ((((D.bo.getD ((crashS D n).getD i (e0, 0)).2 bo0).2 + (tailK (D.bo.getD ((crashS D n).getD i (e0, 0)).2 bo0) tl i)) : Nat) : Int)])]) qn (rboR bsn) (n := bsn.length) (m := 1) (news := [pV q2 ((D.bo.getD ((crashS D n).getD i (e0, 0)).2 bo0).2 + (tailK (D.bo.getD ((crashS D n).getD i (e0, 0)).2 bo0) tl i)), .int .i64 ((((D.bo.getD ((crashS D n).getD i (e0, 0)).2 bo0).2 + (tailK (D.bo.getD ((crashS D n).getD i (e0, 0)).2 bo0) tl i)) : Nat) : Int)]) rfl rfl rfl rfl Tryd.underlying78 elRB (by show ((_ :: (_ ++ (_ ++ (_ ++ _)))) ++ _) ++ [_] = _; simp only [List.cons_append, List.append_assoc, List.nil_append]) hqn (fun w1 hw => src_C Tryd.underlying78 (SlC.in (r := []) (fz := (0, 0)) hw (List.mem_append_right _ (List.mem_singleton.2 rfl)) rfl 1) (all_one (by kernel_rfl))) (by omega) (by omega) (fun q' hq' => ?_))
          refine L_v rfl rfl rfl (V_assign rfl rfl) ?_
          refine L_nil ?_
          change J _ _ _ _
          have hlb : (leftB (D.bo.getD ((crashS D n).getD i (e0, 0)).2 bo0) (tailK (D.bo.getD ((crashS D n).getD i (e0, 0)).2 bo0) tl i) z).length = ((D.bo.getD ((crashS D n).getD i (e0, 0)).2 bo0).2 + (tailK (D.bo.getD ((crashS D n).getD i (e0, 0)).2 bo0) tl i)) := leftB_len _ _ _ ht2
          have e8 : rboR bsn ++ [pV q2 ((D.bo.getD ((crashS D n).getD i (e0, 0)).2 bo0).2 + (tailK (D.bo.getD ((crashS D n).getD i (e0, 0)).2 bo0) tl i)), .int .i64 ((((D.bo.getD ((crashS D n).getD i (e0, 0)).2 bo0).2 + (tailK (D.bo.getD ((crashS D n).getD i (e0, 0)).2 bo0) tl i)) : Nat) : Int)] = rboR (bsn ++ [((((leftB (D.bo.getD ((crashS D n).getD i (e0, 0)).2 bo0) (tailK (D.bo.getD ((crashS D n).getD i (e0, 0)).2 bo0) tl i) z), (leftB (D.bo.getD ((crashS D n).getD i (e0, 0)).2 bo0) (tailK (D.bo.getD ((crashS D n).getD i (e0, 0)).2 bo0) tl i) z).length), (pA q2, pC q2)) : RB)]) := by rw [rboR_app, ← hlb]; rfl
          have hq2' : PC 1 q2 (leftB (D.bo.getD ((crashS D n).getD i (e0, 0)).2 bo0) (tailK (D.bo.getD ((crashS D n).getD i (e0, 0)).2 bo0) tl i) z).length (dg (leftB (D.bo.getD ((crashS D n).getD i (e0, 0)).2 bo0) (tailK (D.bo.getD ((crashS D n).getD i (e0, 0)).2 bo0) tl i) z)) := by
            rw [hlb]
            rcases q2 with _ | ⟨g2, p2, c2, r2⟩
            · have := hq2.1
              refine ⟨this, List.length_eq_zero_iff.1 (by rw [dg_length, hlb]; exact this)⟩
            · exact ⟨by rw [dg_length, hlb, Nat.mul_one], hq2.2⟩
          rw [e8] at hq'
          refine J_pk (((b1, row 82 (rkT D.room (pV H.qb H.bs.length) (.slice a (crashS D n).length c) (.slice none 0 0) false false D.left)) :: (pM 94 H.qc (chR D.ch) ++ (pM 91 H.qb (rboR H.bs) ++ (pM 91 q' (rboR (bsn ++ [((((leftB (D.bo.getD ((crashS D n).getD i (e0, 0)).2 bo0) (tailK (D.bo.getD ((crashS D n).getD i (e0, 0)).2 bo0) tl i) z), (leftB (D.bo.getD ((crashS D n).getD i (e0, 0)).2 bo0) (tailK (D.bo.getD ((crashS D n).getD i (e0, 0)).2 bo0) tl i) z).length), (pA q2, pC q2)) : RB)])) ++ pM 96 qm (nmR (sfN (crashS D n) i)))))) ++ pM 5 q2 (dg (leftB (D.bo.getD ((crashS D n).getD i (e0, 0)).2 bo0) (tailK (D.bo.getD ((crashS D n).getD i (e0, 0)).2 bo0) tl i) z))) (Pk.of_sub (by rw [← e8]; show List.Sublist ((_ :: (_ ++ (_ ++ (_ ++ _)))) ++ _) ((_ :: (_ ++ _)) ++ (_ ++ ((_ ++ _) ++ [_]))); simp only [List.cons_append, List.append_assoc, List.nil_append]; exact List.Sublist.cons_cons _ (List.Sublist.append (List.Sublist.refl _) (List.Sublist.append (List.Sublist.refl _) (List.Sublist.append (List.Sublist.refl _) (List.Sublist.append (List.Sublist.refl _) (List.sublist_append_left _ _))))))) ?_
          refine J_toFactQ (sz := 1) (n := (leftB (D.bo.getD ((crashS D n).getD i (e0, 0)).2 bo0) (tailK (D.bo.getD ((crashS D n).getD i (e0, 0)).2 bo0) tl i) z).length) ((b1, row 82 (rkT D.room (pV H.qb H.bs.length) (.slice a (crashS D n).length c) (.slice none 0 0) false false D.left)) :: (pM 94 H.qc (chR D.ch) ++ (pM 91 H.qb (rboR H.bs) ++ (pM 91 q' (rboR (bsn ++ [((((leftB (D.bo.getD ((crashS D n).getD i (e0, 0)).2 bo0) (tailK (D.bo.getD ((crashS D n).getD i (e0, 0)).2 bo0) tl i) z), (leftB (D.bo.getD ((crashS D n).getD i (e0, 0)).2 bo0) (tailK (D.bo.getD ((crashS D n).getD i (e0, 0)).2 bo0) tl i) z).length), (pA q2, pC q2)) : RB)])) ++ pM 96 qm (nmR (sfN (crashS D n) i)))))) q2 (dg (leftB (D.bo.getD ((crashS D n).getD i (e0, 0)).2 bo0) (tailK (D.bo.getD ((crashS D n).getD i (e0, 0)).2 bo0) tl i) z)) rfl hq2' (fun hnew => ?_)
          have hob' : ON [rkF D H] w.heap.size (allF ((bsn ++ [((((leftB (D.bo.getD ((crashS D n).getD i (e0, 0)).2 bo0) (tailK (D.bo.getD ((crashS D n).getD i (e0, 0)).2 bo0) tl i) z), (leftB (D.bo.getD ((crashS D n).getD i (e0, 0)).2 bo0) (tailK (D.bo.getD ((crashS D n).getD i (e0, 0)).2 bo0) tl i) z).length), (pA q2, pC q2)) : RB)]).map rbF)) := fun k hk => by
            obtain ⟨f, hf, hk⟩ := hk
            rw [List.map_append] at hf
            rcases List.mem_append.1 hf with h1 | h1
            · exact hob k ⟨f, h1, hk⟩
            · obtain rfl := List.mem_singleton.1 h1
              obtain ⟨h2, h3⟩ := hnew k (factB_C hk)
              refine .inr (h2.resolve_right fun h4 => h3 ?_)
              have h4 : k ∈ (rkM b1 D H).map (·.1) := h4
              show k ∈ (_ :: (_ ++ (_ ++ _))).map _
              rw [List.map_cons, List.map_append, List.map_append, ← List.append_assoc]
              have h5 : (rkM b1 D H).map (·.1) = b1 :: ((pM 94 H.qc (chR D.ch)).map (·.1) ++ (pM 91 H.qb (rboR H.bs)).map (·.1)) := by show b1 :: List.map _ (_ ++ _) = _; rw [List.map_append]
              rw [h5] at h4
              rcases List.mem_cons.1 h4 with h6 | h6
              · exact List.mem_cons.2 (.inl h6)
              · exact List.mem_cons_of_mem _ (List.mem_append_left _ h6)
          refine J_deriv (allF ((bsn ++ [((((leftB (D.bo.getD ((crashS D n).getD i (e0, 0)).2 bo0) (tailK (D.bo.getD ((crashS D n).getD i (e0, 0)).2 bo0) tl i) z), (leftB (D.bo.getD ((crashS D n).getD i (e0, 0)).2 bo0) (tailK (D.bo.getD ((crashS D n).getD i (e0, 0)).2 bo0) tl i) z).length), (pA q2, pC q2)) : RB)]).map rbF)) (fun w hw f hf => by
            rw [List.map_append] at hf
            rcases List.mem_append.1 hf with h1 | h1
            · exact (hw.fa 3 rfl).1 f h1
            · obtain rfl := List.mem_singleton.1 h1
              exact SlC.toB' (hw.fa 4 rfl).1) (fun k hk => by
            obtain ⟨f, hf, hk⟩ := hk
            rw [List.map_append] at hf
            rcases List.mem_append.1 hf with h1 | h1
            · exact ⟨allF (bsn.map rbF), List.mem_append_left _ (List.mem_cons_of_mem _ (List.mem_cons_of_mem _ (List.mem_cons_of_mem _ (List.mem_cons_self ..)))), f, h1, hk⟩
            · obtain rfl := List.mem_singleton.1 h1
              exact ⟨_, List.mem_append_right _ (List.mem_singleton.2 rfl), factB_C hk⟩) ?_
          refine J_region ?_
          refine L_v rfl rfl rfl (V_move rfl rfl) ?_
          refine L_v rfl rfl rfl (V_move rfl rfl) ?_
          refine L_v rfl rfl rfl (V_nilCheck rfl rfl) ?_
          refine L_v rfl rfl rfl (V_fieldAddr rfl rfl Tryd.underlying82 rfl sz79dm rfl) ?_
          refine L_v rfl rfl rfl (V_load1 0 rfl rfl rfl Tryd.underlying79 rfl (by rfl)) ?_
          refine L_v rfl rfl rfl (V_move rfl rfl) ?_
          refine L_v rfl rfl rfl (V_indexC rfl rfl rfl Tryd.underlying79 sz96dm (fun w hw => (hw.fa 2 rfl).1) (by omega) (by omega)) ?_
          refine L_v rfl rfl rfl (V_fieldC rfl rfl (fun w hw => nm_pos (hw.fa 2 rfl).1 hin2) Tryd.underlying96 rfl sz9dm rfl) ?_
          refine L_v rfl rfl rfl (V_loadC rfl rfl Tryd.underlying9 rfl (fun w hw => (hw.fa 2 rfl).1) (nmR_at hin2 0 _ rfl)) ?_
          refine L_v rfl rfl rfl (V_move rfl rfl) ?_
          refine L_v rfl rfl rfl (V_buildE (v := .agg (nmC (((crashS D n).getD i (e0, 0)).1, i)).toArray) rfl rfl (fun w => by kernel_rfl)) ?_
          refine L_buildSlice (e := 96) (vs := [(0, .agg (nmC (((crashS D n).getD i (e0, 0)).1, i)).toArray)]) (l := nmC (((crashS D n).getD i (e0, 0)).1, i)) rfl rfl rfl rfl rfl (bsN _) (fun b8 => ?_)
          refine L_cons rfl (S_appendP (e := 96) ((b1, row 82 (rkT D.room (pV H.qb H.bs.length) (.slice a (crashS D n).length c) (.slice none 0 0) false false D.left)) :: (pM 94 H.qc (chR D.ch) ++ (pM 91 H.qb (rboR H.bs) ++ pM 91 q' (rboR (bsn ++ [((((leftB (D.bo.getD ((crashS D n).getD i (e0, 0)).2 bo0) (tailK (D.bo.getD ((crashS D n).getD i (e0, 0)).2 bo0) tl i) z), (leftB (D.bo.getD ((crashS D n).getD i (e0, 0)).2 bo0) (tailK (D.bo.getD ((crashS D n).getD i (e0, 0)).2 bo0) tl i) z).length), (pA q2, pC q2)) : RB)]))))) [(b8, row 96 (nmC (((crashS D n).getD i (e0, 0)).1, i)))] qm (nmR (sfN (crashS D n) i)) (n := i) (m := 1) (news := nmC (((crashS D n).getD i (e0, 0)).1, i)) rfl rfl rfl rfl Tryd.underlying79 elN (by show (_ :: (_ ++ (_ ++ (_ ++ _)))) ++ [_] = _; simp only [List.cons_append, List.append_assoc, List.nil_append]) hqm (fun w1 hw => src_C Tryd.underlying79 (SlC.in (r := []) (fz := (0, 0)) hw (List.mem_append_right _ (List.mem_singleton.2 rfl)) rfl 1) (all_one (by kernel_rfl))) (by omega) (by omega) (fun qm' hqm' => ?_))
          refine L_v rfl rfl rfl (V_assign rfl rfl) ?_
          refine L_nil ?_
          change J _ _ _ _
          refine J_region ?_
          refine L_v rfl rfl rfl (V_move rfl rfl) ?_
          refine L_v rfl rfl rfl (V_add (r := ((i + 1 : Nat) : Int)) rfl rfl rfl (by rw [IntKind.wrap_i64]; omega)) ?_
          refine L_v rfl rfl rfl (V_assign rfl rfl) ?_
          refine L_nil ?_
          have e6 := sfN_s hin2
          have e5 : nmR (sfN (crashS D n) (i + 1)) = nmR (sfN (crashS D n) i) ++ nmC (((crashS D n).getD i (e0, 0)).1, i) := by rw [e6, nmR_app]; rfl
          rw [← e5] at hqm'
          exact ⟨(i + 1, q', bsn ++ [((((leftB (D.bo.getD ((crashS D n).getD i (e0, 0)).2 bo0) (tailK (D.bo.getD ((crashS D n).getD i (e0, 0)).2 bo0) tl i) z), (leftB (D.bo.getD ((crashS D n).getD i (e0, 0)).2 bo0) (tailK (D.bo.getD ((crashS D n).getD i (e0, 0)).2 bo0) tl i) z).length), (pA q2, pC q2)) : RB)], qm'), ⟨by show i + 1 ≤ _; omega, by show PC 2 q' (bsn ++ [_]).length _; rw [List.length_append]; exact hq', by show (bsn ++ [_]).length = i + 1; rw [List.length_append, hbl2]; rfl, rcrash_bs hbs rfl, fun y hy => (List.mem_append.1 hy).elim (hcp y) (fun h => by obtain rfl := List.mem_singleton.1 h; exact hq2'.le), hqm', hob'⟩, by show (crashS D n).length - (i + 1) < (crashS D n).length - i; omega,
            ⟨rfl, rfl, rfl, (by show _ = some (pV q' (bsn ++ [_]).length); rw [List.length_append]; rfl), rfl, rfl, trivial⟩, (by
              show List.Sublist ((b1, row 82 (rkT D.room (pV H.qb H.bs.length) (.slice a (crashS D n).length c) (.slice none 0 0) false false D.left)) :: (pM 94 H.qc (chR D.ch) ++ (pM 91 H.qb (rboR H.bs) ++ (pM 91 q' (rboR (bsn ++ [((((leftB (D.bo.getD ((crashS D n).getD i (e0, 0)).2 bo0) (tailK (D.bo.getD ((crashS D n).getD i (e0, 0)).2 bo0) tl i) z), (leftB (D.bo.getD ((crashS D n).getD i (e0, 0)).2 bo0) (tailK (D.bo.getD ((crashS D n).getD i (e0, 0)).2 bo0) tl i) z).length), (pA q2, pC q2)) : RB)])) ++ pM 96 qm' (nmR (sfN (crashS D n) (i + 1))))))) _
              rw [e5]
              show List.Sublist (_ :: (_ ++ (_ ++ (_ ++ _)))) ((_ :: (_ ++ (_ ++ _))) ++ (_ ++ [_]))
              simp only [List.cons_append, List.append_assoc, List.nil_append]
              exact List.Sublist.cons_cons _ (List.Sublist.append (List.Sublist.refl _) (List.Sublist.append (List.Sublist.refl _) (List.Sublist.append (List.Sublist.refl _) (List.sublist_append_left _ _))))), (fun f hf => by
              have hf : f ∈ [rkF D H, factC 1 (.slice at_ tl.length ct) tl.length (intV tl), nmF a c (crashS D n), allF ((bsn ++ [((((leftB (D.bo.getD ((crashS D n).getD i (e0, 0)).2 bo0) (tailK (D.bo.getD ((crashS D n).getD i (e0, 0)).2 bo0) tl i) z), (leftB (D.bo.getD ((crashS D n).getD i (e0, 0)).2 bo0) (tailK (D.bo.getD ((crashS D n).getD i (e0, 0)).2 bo0) tl i) z).length), (pA q2, pC q2)) : RB)]).map rbF)] := hf
              simp only [List.mem_cons, List.not_mem_nil, or_false] at hf
              rcases hf with rfl | rfl | rfl | rfl
              · exact List.mem_append_left _ (List.mem_append_left _ (List.mem_cons_self ..))
              · exact List.mem_append_left _ (List.mem_append_left _ (List.mem_cons_of_mem _ (List.mem_cons_self ..)))
              · exact List.mem_append_left _ (List.mem_append_left _ (List.mem_cons_of_mem _ (List.mem_cons_of_mem _ (List.mem_cons_self ..))))
              · exact List.mem_append_right _ (List.mem_singleton.2 rfl)), rfl⟩
      ·
        first | (have h5 := of_decide_eq_true h5) | (have h5 := of_decide_eq_false h5) | skip
        rw [Bool.and_eq_false_iff, decide_eq_false_iff_not, decide_eq_false_iff_not] at h5
        have ht0 : (tailK (D.bo.getD ((crashS D n).getD i (e0, 0)).2 bo0) tl i) = 0 := tailK_0 (by omega)
        refine J_skip ?_
        change J _ _ _ _
        refine J_seq ?_
        refine J_region ?_
        refine L_v rfl rfl rfl (V_assign rfl rfl) ?_
        refine L_nil ?_
        change J _ _ _ _
        refine J_seq ?_
        refine J_region ?_
        refine L_v rfl rfl rfl (V_move rfl rfl) ?_
        refine L_v rfl rfl rfl (V_fieldAddr rfl rfl Tryd.underlying91 rfl sz22dm rfl) ?_
        refine L_v rfl rfl rfl (V_load1 0 rfl rfl rfl Tryd.underlying22 rfl (by rfl)) ?_
        refine L_v rfl rfl rfl (V_fieldAddr rfl rfl Tryd.underlying91 rfl sz3dm rfl) ?_
        refine L_v rfl rfl rfl (V_load1 0 rfl rfl rfl Tryd.underlying3 rfl (by rfl)) ?_
        refine L_v rfl rfl rfl (V_move rfl rfl) ?_
        refine L_same 103 rfl ((show Value.int .i64 0 = .int .i64 (((tailK (D.bo.getD ((crashS D n).getD i (e0, 0)).2 bo0) tl i) : Nat) : Int) from by rw [ht0]; rfl)) ?_
        refine L_v rfl rfl rfl (V_add (r := ((((D.bo.getD ((crashS D n).getD i (e0, 0)).2 bo0).2 + (tailK (D.bo.getD ((crashS D n).getD i (e0, 0)).2 bo0) tl i)) : Nat) : Int)) rfl rfl rfl (by show IntKind.i64.wrap (((D.bo.getD ((crashS D n).getD i (e0, 0)).2 bo0).2 : Int) + (((tailK (D.bo.getD ((crashS D n).getD i (e0, 0)).2 bo0) tl i) : Nat) : Int)) = _; rw [IntKind.wrap_i64]; omega)) ?_
        refine L_v rfl rfl rfl (V_slice0 (h := ((D.bo.getD ((crashS D n).getD i (e0, 0)).2 bo0).2 + (tailK (D.bo.getD ((crashS D n).getD i (e0, 0)).2 bo0) tl i))) rfl rfl Tryd.underlying22 sz5dm (Bd.at rfl rfl) rfl rfl (show _ ≤ qx.2 by omega) (Nat.le_refl _)) ?_
        refine L_cons rfl (S_appendP (e := 5) ((b0, row 91 (rboV ((D.bo.getD ((crashS D n).getD i (e0, 0)).2 bo0), qx))) :: (b1, row 82 (rkT D.room (pV H.qb H.bs.length) (.slice a (crashS D n).length c) (.slice none 0 0) false false D.left)) :: (pM 94 H.qc (chR D.ch) ++ (pM 91 H.qb (rboR H.bs) ++ (pM 91 qn (rboR bsn) ++ pM 96 qm (nmR (sfN (crashS D n) i)))))) [] none [] (n := 0) (m := ((D.bo.getD ((crashS D n).getD i (e0, 0)).2 bo0).2 + (tailK (D.bo.getD ((crashS D n).getD i (e0, 0)).2 bo0) tl i))) (news := dg (tkB D n tl i)) rfl rfl rfl rfl Tryd.underlying22 elU (List.append_nil _).symm ⟨rfl, rfl⟩ (fun w1 hw => src_bytes' Tryd.underlying22 (SlB.take (FA.of (FA.r (f := nmF H.sa H.sc D.sf) (hw.fa 0 rfl)) hinx).1 ht2 _) hl2) (by omega) (by omega) (fun q2 hq2 => ?_))
        refine L_v rfl rfl rfl (V_assign rfl rfl) ?_
        refine L_nil ?_
        change J _ _ _ _
        refine J_seq ?_
        refine J_seq ?_
        rw [Nat.zero_add, List.nil_append] at hq2
        refine J_le (st' := { env := [(0, .pointer (some ⟨b1, 0, none⟩)), (2, .slice at_ tl.length ct), (3, .int .u8 z), (9, pV qn bsn.length), (10, pV qm i), (11, .int .i64 (i : Int)), (13, .int .i64 (((tailK (D.bo.getD ((crashS D n).getD i (e0, 0)).2 bo0) tl i) : Nat) : Int)), (14, pV q2 ((D.bo.getD ((crashS D n).getD i (e0, 0)).2 bo0).2 + (tailK (D.bo.getD ((crashS D n).getD i (e0, 0)).2 bo0) tl i)))], mem := ((b0, row 91 (rboV ((D.bo.getD ((crashS D n).getD i (e0, 0)).2 bo0), qx))) :: (b1, row 82 (rkT D.room (pV H.qb H.bs.length) (.slice a (crashS D n).length c) (.slice none 0 0) false false D.left)) :: (pM 94 H.qc (chR D.ch) ++ (pM 91 H.qb (rboR H.bs) ++ (pM 91 qn (rboR bsn) ++ pM 96 qm (nmR (sfN (crashS D n) i)))))) ++ pM 5 q2 (dg (tkB D n tl i)), facts := [rkF D H, factC 1 (.slice at_ tl.length ct) tl.length (intV tl), nmF a c (crashS D n), allF (bsn.map rbF)] }) ⟨⟨rfl, rfl, rfl, rfl, rfl, rfl, (by show some (Value.int .i64 0) = some (.int .i64 (((tailK (D.bo.getD ((crashS D n).getD i (e0, 0)).2 bo0) tl i) : Nat) : Int)); rw [ht0]; rfl), (by show some (pV q2 (0 + ((D.bo.getD ((crashS D n).getD i (e0, 0)).2 bo0).2 + (tailK (D.bo.getD ((crashS D n).getD i (e0, 0)).2 bo0) tl i)))) = some (pV q2 ((D.bo.getD ((crashS D n).getD i (e0, 0)).2 bo0).2 + (tailK (D.bo.getD ((crashS D n).getD i (e0, 0)).2 bo0) tl i))); rw [Nat.zero_add]), trivial⟩, (by show List.Sublist _ (_ ++ (_ ++ [])); rw [List.append_nil]; exact List.Sublist.refl _), fun f hf => hf, rfl⟩ ?_
        refine J_region ?_
        refine L_v rfl rfl rfl (V_move rfl rfl) ?_
        refine L_v rfl rfl rfl (V_gtr rfl rfl rfl rfl) ?_
        refine L_nil ?_
        change J _ _ _ _
        refine J_cond rfl (fun h6 => ?_) (fun h6 => ?_)
        ·
          first | (have h6 := of_decide_eq_true h6) | (have h6 := of_decide_eq_false h6) | skip
          have hA2 : ∃ b off, pA q2 = some ⟨b, off, none⟩ := hq2.at (by omega)
          refine J_region ?_
          refine L_v rfl rfl rfl (V_move rfl rfl) ?_
          refine L_v rfl rfl rfl (V_move rfl rfl) ?_
          refine L_v rfl rfl rfl (V_len rfl rfl Tryd.underlying22 rfl) ?_
          refine L_v rfl rfl rfl (V_sub (r := ((((D.bo.getD ((crashS D n).getD i (e0, 0)).2 bo0).2 + (tailK (D.bo.getD ((crashS D n).getD i (e0, 0)).2 bo0) tl i)) - 1 : Nat) : Int)) rfl rfl rfl (by show IntKind.i64.wrap (((((D.bo.getD ((crashS D n).getD i (e0, 0)).2 bo0).2 + (tailK (D.bo.getD ((crashS D n).getD i (e0, 0)).2 bo0) tl i)) : Nat) : Int) - 1) = _; rw [IntKind.wrap_i64]; omega)) ?_
          refine L_v rfl rfl rfl (V_move rfl rfl) ?_
          refine L_v rfl rfl rfl (V_move rfl rfl) ?_
          refine L_v rfl rfl rfl (V_len rfl rfl Tryd.underlying22 rfl) ?_
          refine L_v rfl rfl rfl (V_sub (r := ((((D.bo.getD ((crashS D n).getD i (e0, 0)).2 bo0).2 + (tailK (D.bo.getD ((crashS D n).getD i (e0, 0)).2 bo0) tl i)) - 1 : Nat) : Int)) rfl rfl rfl (by show IntKind.i64.wrap (((((D.bo.getD ((crashS D n).getD i (e0, 0)).2 bo0).2 + (tailK (D.bo.getD ((crashS D n).getD i (e0, 0)).2 bo0) tl i)) : Nat) : Int) - 1) = _; rw [IntKind.wrap_i64]; omega)) ?_
          refine L_v rfl rfl rfl (V_indexN rfl rfl rfl Tryd.underlying22 sz5dm hA2 (by omega) (by omega)) ?_
          refine L_v rfl rfl rfl (V_loadC rfl rfl Tryd.underlying5 rfl (fun w hw => hq2.slC (e := 5) hw (fun p hp => List.mem_append_right _ hp)) (dg_at (by omega))) ?_
          refine L_v rfl rfl rfl (V_move rfl rfl) ?_
          refine L_v rfl rfl rfl (V_xor rfl rfl rfl rfl) ?_
          refine L_v rfl rfl rfl (V_indexN rfl rfl rfl Tryd.underlying22 sz5dm hA2 (by omega) (by omega)) ?_
          refine L_cons rfl (S_storeP (e := 5) ((b0, row 91 (rboV ((D.bo.getD ((crashS D n).getD i (e0, 0)).2 bo0), qx))) :: (b1, row 82 (rkT D.room (pV H.qb H.bs.length) (.slice a (crashS D n).length c) (.slice none 0 0) false false D.left)) :: (pM 94 H.qc (chR D.ch) ++ (pM 91 H.qb (rboR H.bs) ++ (pM 91 qn (rboR bsn) ++ pM 96 qm (nmR (sfN (crashS D n) i)))))) [] q2 (dg (tkB D n tl i)) rfl rfl rfl rfl (by show _ ++ _ = _ ++ (_ ++ []); rw [List.append_nil]) hq2 (by rw [dg_length, hl2]; omega) rfl sz5dm ?_)
          refine L_nil ?_
          change J _ _ _ _
          refine J_seq ?_
          refine J_pk (((b0, row 91 (rboV ((D.bo.getD ((crashS D n).getD i (e0, 0)).2 bo0), qx))) :: (b1, row 82 (rkT D.room (pV H.qb H.bs.length) (.slice a (crashS D n).length c) (.slice none 0 0) false false D.left)) :: (pM 94 H.qc (chR D.ch) ++ (pM 91 H.qb (rboR H.bs) ++ (pM 91 qn (rboR bsn) ++ pM 96 qm (nmR (sfN (crashS D n) i)))))) ++ pM 5 q2 (dg (leftB (D.bo.getD ((crashS D n).getD i (e0, 0)).2 bo0) (tailK (D.bo.getD ((crashS D n).getD i (e0, 0)).2 bo0) tl i) z))) (Pk.of_sub (by rw [leftB_1 _ _ (by omega), ← dg_xor, hl2]; show List.Sublist _ (_ ++ (pM _ _ ((dg _).set ((((D.bo.getD ((crashS D n).getD i (e0, 0)).2 bo0).2 + (tailK (D.bo.getD ((crashS D n).getD i (e0, 0)).2 bo0) tl i)) - 1) * (0 + 1)) _) ++ [])); rw [List.append_nil, Nat.zero_add, Nat.mul_one]; exact List.Sublist.refl _)) ?_
          refine J_le (st' := { env := [(0, .pointer (some ⟨b1, 0, none⟩)), (2, .slice at_ tl.length ct), (3, .int .u8 z), (9, pV qn bsn.length), (10, pV qm i), (11, .int .i64 (i : Int)), (14, pV q2 ((D.bo.getD ((crashS D n).getD i (e0, 0)).2 bo0).2 + (tailK (D.bo.getD ((crashS D n).getD i (e0, 0)).2 bo0) tl i)))], mem := ((b1, row 82 (rkT D.room (pV H.qb H.bs.length) (.slice a (crashS D n).length c) (.slice none 0 0) false false D.left)) :: (pM 94 H.qc (chR D.ch) ++ (pM 91 H.qb (rboR H.bs) ++ (pM 91 qn (rboR bsn) ++ pM 96 qm (nmR (sfN (crashS D n) i)))))) ++ pM 5 q2 (dg (leftB (D.bo.getD ((crashS D n).getD i (e0, 0)).2 bo0) (tailK (D.bo.getD ((crashS D n).getD i (e0, 0)).2 bo0) tl i) z)), facts := [rkF D H, factC 1 (.slice at_ tl.length ct) tl.length (intV tl), nmF a c (crashS D n), allF (bsn.map rbF)] }) ⟨⟨rfl, rfl, rfl, rfl, rfl, rfl, rfl, trivial⟩, (List.Sublist.cons _ (List.Sublist.refl _)), fun f hf => hf, rfl⟩ ?_
          refine J_region ?_
          refine L_v rfl rfl rfl (V_move rfl rfl) ?_
          refine L_v rfl rfl rfl (V_move rfl rfl) ?_
          refine L_v rfl rfl rfl (V_move rfl rfl) ?_
          refine L_v rfl rfl rfl (V_len rfl rfl Tryd.underlying22 rfl) ?_
          refine L_v rfl rfl rfl (V_buildE (v := .agg ([pV q2 ((D.bo.getD ((crashS D n).getD i (e0, 0)).2 bo0).2 + (tailK (D.bo.getD ((crashS D n).getD i (e0, 0)).2 bo0) tl i)), .int .i64 ((((D.bo.getD ((crashS D n).getD i (e0, 0)).2 bo0).2 + (tailK (D.bo.getD ((crashS D n).getD i (e0, 0)).2 bo0) tl i)) : Nat) : Int)]).toArray) rfl rfl (fun w => by kernel_rfl)) ?_
          refine L_buildSlice (e := 91) (vs := [(0, .agg [pV q2 ((D.bo.getD ((crashS D n).getD i (e0, 0)).2 bo0).2 + (tailK (D.bo.getD ((crashS D n).getD i (e0, 0)).2 bo0) tl i)), .int .i64 ((((D.bo.getD ((crashS D n).getD i (e0, 0)).2 bo0).2 + (tailK (D.bo.getD ((crashS D n).getD i (e0, 0)).2 bo0) tl i)) : Nat) : Int)].toArray)]) (l := [pV q2 ((D.bo.getD ((crashS D n).getD i (e0, 0)).2 bo0).2 + (tailK (D.bo.getD ((crashS D n).getD i (e0, 0)).2 bo0) tl i)), .int .i64 ((((D.bo.getD ((crashS D n).getD i (e0, 0)).2 bo0).2 + (tailK (D.bo.getD ((crashS D n).getD i (e0, 0)).2 bo0) tl i)) : Nat) : Int)]) rfl rfl rfl rfl rfl (bsRK _ _ _) (fun b9 => ?_)
          refine L_cons rfl (S_appendP (e := 91) ((b1, row 82 (rkT D.room (pV H.qb H.bs.length) (.slice a (crashS D n).length c) (.slice none 0 0) false false D.left)) :: (pM 94 H.qc (chR D.ch) ++ pM 91 H.qb (rboR H.bs))) ((pM 96 qm (nmR (sfN (crashS D n) i)) ++ pM 5 q2 (dg (leftB (D.bo.getD ((crashS D n).getD i (e0, 0)).2 bo0) (tailK (D.bo.getD ((crashS D n).getD i (e0, 0)).2 bo0) tl i) z))) ++ [(b9, row 91 [pV q2 ((D.bo.getD ((crashS D n).getD i (e0, 0)).2 bo0).2 + (tailK (D.bo.getD ((crashS D n).getD i (e0, 0)).2 bo0) tl i)), .int .i64 ((((D.bo.getD ((crashS D n).getD i (e0, 0)).2 bo0).2 + (tailK (D.bo.getD ((crashS D n).getD i (e0, 0)).2 bo0) tl i)) : Nat) : Int)])]) qn (rboR bsn) (n := bsn.length) (m := 1) (news := [pV q2 ((D.bo.getD ((crashS D n).getD i (e0, 0)).2 bo0).2 + (tailK (D.bo.getD ((crashS D n).getD i (e0, 0)).2 bo0) tl i)), .int .i64 ((((D.bo.getD ((crashS D n).getD i (e0, 0)).2 bo0).2 + (tailK (D.bo.getD ((crashS D n).getD i (e0, 0)).2 bo0) tl i)) : Nat) : Int)]) rfl rfl rfl rfl Tryd.underlying78 elRB (by show ((_ :: (_ ++ (_ ++ (_ ++ _)))) ++ _) ++ [_] = _; simp only [List.cons_append, List.append_assoc, List.nil_append]) hqn (fun w1 hw => src_C Tryd.underlying78 (SlC.in (r := []) (fz := (0, 0)) hw (List.mem_append_right _ (List.mem_singleton.2 rfl)) rfl 1) (all_one (by kernel_rfl))) (by omega) (by omega) (fun q' hq' => ?_))
          refine L_v rfl rfl rfl (V_assign rfl rfl) ?_
          refine L_nil ?_
          change J _ _ _ _
          have hlb : (leftB (D.bo.getD ((crashS D n).getD i (e0, 0)).2 bo0) (tailK (D.bo.getD ((crashS D n).getD i (e0, 0)).2 bo0) tl i) z).length = ((D.bo.getD ((crashS D n).getD i (e0, 0)).2 bo0).2 + (tailK (D.bo.getD ((crashS D n).getD i (e0, 0)).2 bo0) tl i)) := leftB_len _ _ _ ht2
          have e8 : rboR bsn ++ [pV q2 ((D.bo.getD ((crashS D n).getD i (e0, 0)).2 bo0).2 + (tailK (D.bo.getD ((crashS D n).getD i (e0, 0)).2 bo0) tl i)), .int .i64 ((((D.bo.getD ((crashS D n).getD i (e0, 0)).2 bo0).2 + (tailK (D.bo.getD ((crashS D n).getD i (e0, 0)).2 bo0) tl i)) : Nat) : Int)] = rboR (bsn ++ [((((leftB (D.bo.getD ((crashS D n).getD i (e0, 0)).2 bo0) (tailK (D.bo.getD ((crashS D n).getD i (e0, 0)).2 bo0) tl i) z), (leftB (D.bo.getD ((crashS D n).getD i (e0, 0)).2 bo0) (tailK (D.bo.getD ((crashS D n).getD i (e0, 0)).2 bo0) tl i) z).length), (pA q2, pC q2)) : RB)]) := by rw [rboR_app, ← hlb]; rfl
          have hq2' : PC 1 q2 (leftB (D.bo.getD ((crashS D n).getD i (e0, 0)).2 bo0) (tailK (D.bo.getD ((crashS D n).getD i (e0, 0)).2 bo0) tl i) z).length (dg (leftB (D.bo.getD ((crashS D n).getD i (e0, 0)).2 bo0) (tailK (D.bo.getD ((crashS D n).getD i (e0, 0)).2 bo0) tl i) z)) := by
            rw [hlb]
            rcases q2 with _ | ⟨g2, p2, c2, r2⟩
            · have := hq2.1
              refine ⟨this, List.length_eq_zero_iff.1 (by rw [dg_length, hlb]; exact this)⟩
            · exact ⟨by rw [dg_length, hlb, Nat.mul_one], hq2.2⟩
          rw [e8] at hq'
          refine J_pk (((b1, row 82 (rkT D.room (pV H.qb H.bs.length) (.slice a (crashS D n).length c) (.slice none 0 0) false false D.left)) :: (pM 94 H.qc (chR D.ch) ++ (pM 91 H.qb (rboR H.bs) ++ (pM 91 q' (rboR (bsn ++ [((((leftB (D.bo.getD ((crashS D n).getD i (e0, 0)).2 bo0) (tailK (D.bo.getD ((crashS D n).getD i (e0, 0)).2 bo0) tl i) z), (leftB (D.bo.getD ((crashS D n).getD i (e0, 0)).2 bo0) (tailK (D.bo.getD ((crashS D n).getD i (e0, 0)).2 bo0) tl i) z).length), (pA q2, pC q2)) : RB)])) ++ pM 96 qm (nmR (sfN (crashS D n) i)))))) ++ pM 5 q2 (dg (leftB (D.bo.getD ((crashS D n).getD i (e0, 0)).2 bo0) (tailK (D.bo.getD ((crashS D n).getD i (e0, 0)).2 bo0) tl i) z))) (Pk.of_sub (by rw [← e8]; show List.Sublist ((_ :: (_ ++ (_ ++ (_ ++ _)))) ++ _) ((_ :: (_ ++ _)) ++ (_ ++ ((_ ++ _) ++ [_]))); simp only [List.cons_append, List.append_assoc, List.nil_append]; exact List.Sublist.cons_cons _ (List.Sublist.append (List.Sublist.refl _) (List.Sublist.append (List.Sublist.refl _) (List.Sublist.append (List.Sublist.refl _) (List.Sublist.append (List.Sublist.refl _) (List.sublist_append_left _ _))))))) ?_
          refine J_toFactQ (sz := 1) (n := (leftB (D.bo.getD ((crashS D n).getD i (e0, 0)).2 bo0) (tailK (D.bo.getD ((crashS D n).getD i (e0, 0)).2 bo0) tl i) z).length) ((b1, row 82 (rkT D.room (pV H.qb H.bs.length) (.slice a (crashS D n).length c) (.slice none 0 0) false false D.left)) :: (pM 94 H.qc (chR D.ch) ++ (pM 91 H.qb (rboR H.bs) ++ (pM 91 q' (rboR (bsn ++ [((((leftB (D.bo.getD ((crashS D n).getD i (e0, 0)).2 bo0) (tailK (D.bo.getD ((crashS D n).getD i (e0, 0)).2 bo0) tl i) z), (leftB (D.bo.getD ((crashS D n).getD i (e0, 0)).2 bo0) (tailK (D.bo.getD ((crashS D n).getD i (e0, 0)).2 bo0) tl i) z).length), (pA q2, pC q2)) : RB)])) ++ pM 96 qm (nmR (sfN (crashS D n) i)))))) q2 (dg (leftB (D.bo.getD ((crashS D n).getD i (e0, 0)).2 bo0) (tailK (D.bo.getD ((crashS D n).getD i (e0, 0)).2 bo0) tl i) z)) rfl hq2' (fun hnew => ?_)
          have hob' : ON [rkF D H] w.heap.size (allF ((bsn ++ [((((leftB (D.bo.getD ((crashS D n).getD i (e0, 0)).2 bo0) (tailK (D.bo.getD ((crashS D n).getD i (e0, 0)).2 bo0) tl i) z), (leftB (D.bo.getD ((crashS D n).getD i (e0, 0)).2 bo0) (tailK (D.bo.getD ((crashS D n).getD i (e0, 0)).2 bo0) tl i) z).length), (pA q2, pC q2)) : RB)]).map rbF)) := fun k hk => by
            obtain ⟨f, hf, hk⟩ := hk
            rw [List.map_append] at hf
            rcases List.mem_append.1 hf with h1 | h1
            · exact hob k ⟨f, h1, hk⟩
            · obtain rfl := List.mem_singleton.1 h1
              obtain ⟨h2, h3⟩ := hnew k (factB_C hk)
              refine .inr (h2.resolve_right fun h4 => h3 ?_)
              have h4 : k ∈ (rkM b1 D H).map (·.1) := h4
              show k ∈ (_ :: (_ ++ (_ ++ _))).map _
              rw [List.map_cons, List.map_append, List.map_append, ← List.append_assoc]
              have h5 : (rkM b1 D H).map (·.1) = b1 :: ((pM 94 H.qc (chR D.ch)).map (·.1) ++ (pM 91 H.qb (rboR H.bs)).map (·.1)) := by show b1 :: List.map _ (_ ++ _) = _; rw [List.map_append]
              rw [h5] at h4
              rcases List.mem_cons.1 h4 with h6 | h6
              · exact List.mem_cons.2 (.inl h6)
              · exact List.mem_cons_of_mem _ (List.mem_append_left _ h6)
          refine J_deriv (allF ((bsn ++ [((((leftB (D.bo.getD ((crashS D n).getD i (e0, 0)).2 bo0) (tailK (D.bo.getD ((crashS D n).getD i (e0, 0)).2 bo0) tl i) z), (leftB (D.bo.getD ((crashS D n).getD i (e0, 0)).2 bo0) (tailK (D.bo.getD ((crashS D n).getD i (e0, 0)).2 bo0) tl i) z).length), (pA q2, pC q2)) : RB)]).map rbF)) (fun w hw f hf => by
            rw [List.map_append] at hf
            rcases List.mem_append.1 hf with h1 | h1
            · exact (hw.fa 3 rfl).1 f h1
            · obtain rfl := List.mem_singleton.1 h1
              exact SlC.toB' (hw.fa 4 rfl).1) (fun k hk => by
            obtain ⟨f, hf, hk⟩ := hk
            rw [List.map_append] at hf
            rcases List.mem_append.1 hf with h1 | h1
            · exact ⟨allF (bsn.map rbF), List.mem_append_left _ (List.mem_cons_of_mem _ (List.mem_cons_of_mem _ (List.mem_cons_of_mem _ (List.mem_cons_self ..)))), f, h1, hk⟩
            · obtain rfl := List.mem_singleton.1 h1
              exact ⟨_, List.mem_append_right _ (List.mem_singleton.2 rfl), factB_C hk⟩) ?_
          refine J_region ?_
          refine L_v rfl rfl rfl (V_move rfl rfl) ?_
          refine L_v rfl rfl rfl (V_move rfl rfl) ?_
          refine L_v rfl rfl rfl (V_nilCheck rfl rfl) ?_
          refine L_v rfl rfl rfl (V_fieldAddr rfl rfl Tryd.underlying82 rfl sz79dm rfl) ?_
          refine L_v rfl rfl rfl (V_load1 0 rfl rfl rfl Tryd.underlying79 rfl (by rfl)) ?_
          refine L_v rfl rfl rfl (V_move rfl rfl) ?_
          refine L_v rfl rfl rfl (V_indexC rfl rfl rfl Tryd.underlying79 sz96dm (fun w hw => (hw.fa 2 rfl).1) (by omega) (by omega)) ?_
          refine L_v rfl rfl rfl (V_fieldC rfl rfl (fun w hw => nm_pos (hw.fa 2 rfl).1 hin2) Tryd.underlying96 rfl sz9dm rfl) ?_
          refine L_v rfl rfl rfl (V_loadC rfl rfl Tryd.underlying9 rfl (fun w hw => (hw.fa 2 rfl).1) (nmR_at hin2 0 _ rfl)) ?_
          refine L_v rfl rfl rfl (V_move rfl rfl) ?_
          refine L_v rfl rfl rfl (V_buildE (v := .agg (nmC (((crashS D n).getD i (e0, 0)).1, i)).toArray) rfl rfl (fun w => by kernel_rfl)) ?_
          refine L_buildSlice (e := 96) (vs := [(0, .agg (nmC (((crashS D n).getD i (e0, 0)).1, i)).toArray)]) (l := nmC (((crashS D n).getD i (e0, 0)).1, i)) rfl rfl rfl rfl rfl (bsN _) (fun b8 => ?_)
          refine L_cons rfl (S_appendP (e := 96) ((b1, row 82 (rkT D.room (pV H.qb H.bs.length) (.slice a (crashS D n).length c) (.slice none 0 0) false false D.left)) :: (pM 94 H.qc (chR D.ch) ++ (pM 91 H.qb (rboR H.bs) ++ pM 91 q' (rboR (bsn ++ [((((leftB (D.bo.getD ((crashS D n).getD i (e0, 0)).2 bo0) (tailK (D.bo.getD ((crashS D n).getD i (e0, 0)).2 bo0) tl i) z), (leftB (D.bo.getD ((crashS D n).getD i (e0, 0)).2 bo0) (tailK (D.bo.getD ((crashS D n).getD i (e0, 0)).2 bo0) tl i) z).length), (pA q2, pC q2)) : RB)]))))) [(b8, row 96 (nmC (((crashS D n).getD i (e0, 0)).1, i)))] qm (nmR (sfN (crashS D n) i)) (n := i) (m := 1) (news := nmC (((crashS D n).getD i (e0, 0)).1, i)) rfl rfl rfl rfl Tryd.underlying79 elN (by show (_ :: (_ ++ (_ ++ (_ ++ _)))) ++ [_] = _; simp only [List.cons_append, List.append_assoc, List.nil_append]) hqm (fun w1 hw => src_C Tryd.underlying79 (SlC.in (r := []) (fz := (0, 0)) hw (List.mem_append_right _ (List.mem_singleton.2 rfl)) rfl 1) (all_one (by kernel_rfl))) (by omega) (by omega) (fun qm' hqm' => ?_))
          refine L_v rfl rfl rfl (V_assign rfl rfl) ?_
          refine L_nil ?_
          change J _ _ _ _
          refine J_region ?_
          refine L_v rfl rfl rfl (V_move rfl rfl) ?_
          refine L_v rfl rfl rfl (V_add (r := ((i + 1 : Nat) : Int)) rfl rfl rfl (by rw [IntKind.wrap_i64]; omega)) ?_
          refine L_v rfl rfl rfl (V_assign rfl rfl) ?_
          refine L_nil ?_
          have e6 := sfN_s hin2
          have e5 : nmR (sfN (crashS D n) (i + 1)) = nmR (sfN (crashS D n) i) ++ nmC (((crashS D n).getD i (e0, 0)).1, i) := by rw [e6, nmR_app]; rfl
          rw [← e5] at hqm'
          exact ⟨(i + 1, q', bsn ++ [((((leftB (D.bo.getD ((crashS D n).getD i (e0, 0)).2 bo0) (tailK (D.bo.getD ((crashS D n).getD i (e0, 0)).2 bo0) tl i) z), (leftB (D.bo.getD ((crashS D n).getD i (e0, 0)).2 bo0) (tailK (D.bo.getD ((crashS D n).getD i (e0, 0)).2 bo0) tl i) z).length), (pA q2, pC q2)) : RB)], qm'), ⟨by show i + 1 ≤ _; omega, by show PC 2 q' (bsn ++ [_]).length _; rw [List.length_append]; exact hq', by show (bsn ++ [_]).length = i + 1; rw [List.length_append, hbl2]; rfl, rcrash_bs hbs rfl, fun y hy => (List.mem_append.1 hy).elim (hcp y) (fun h => by obtain rfl := List.mem_singleton.1 h; exact hq2'.le), hqm', hob'⟩, by show (crashS D n).length - (i + 1) < (crashS D n).length - i; omega,
            ⟨rfl, rfl, rfl, (by show _ = some (pV q' (bsn ++ [_]).length); rw [List.length_append]; rfl), rfl, rfl, trivial⟩, (by
              show List.Sublist ((b1, row 82 (rkT D.room (pV H.qb H.bs.length) (.slice a (crashS D n).length c) (.slice none 0 0) false false D.left)) :: (pM 94 H.qc (chR D.ch) ++ (pM 91 H.qb (rboR H.bs) ++ (pM 91 q' (rboR (bsn ++ [((((leftB (D.bo.getD ((crashS D n).getD i (e0, 0)).2 bo0) (tailK (D.bo.getD ((crashS D n).getD i (e0, 0)).2 bo0) tl i) z), (leftB (D.bo.getD ((crashS D n).getD i (e0, 0)).2 bo0) (tailK (D.bo.getD ((crashS D n).getD i (e0, 0)).2 bo0) tl i) z).length), (pA q2, pC q2)) : RB)])) ++ pM 96 qm' (nmR (sfN (crashS D n) (i + 1))))))) _
              rw [e5]
              show List.Sublist (_ :: (_ ++ (_ ++ (_ ++ _)))) ((_ :: (_ ++ (_ ++ _))) ++ (_ ++ [_]))
              simp only [List.cons_append, List.append_assoc, List.nil_append]
              exact List.Sublist.cons_cons _ (List.Sublist.append (List.Sublist.refl _) (List.Sublist.append (List.Sublist.refl _) (List.Sublist.append (List.Sublist.refl _) (List.sublist_append_left _ _))))), (fun f hf => by
              have hf : f ∈ [rkF D H, factC 1 (.slice at_ tl.length ct) tl.length (intV tl), nmF a c (crashS D n), allF ((bsn ++ [((((leftB (D.bo.getD ((crashS D n).getD i (e0, 0)).2 bo0) (tailK (D.bo.getD ((crashS D n).getD i (e0, 0)).2 bo0) tl i) z), (leftB (D.bo.getD ((crashS D n).getD i (e0, 0)).2 bo0) (tailK (D.bo.getD ((crashS D n).getD i (e0, 0)).2 bo0) tl i) z).length), (pA q2, pC q2)) : RB)]).map rbF)] := hf
              simp only [List.mem_cons, List.not_mem_nil, or_false] at hf
              rcases hf with rfl | rfl | rfl | rfl
              · exact List.mem_append_left _ (List.mem_append_left _ (List.mem_cons_self ..))
              · exact List.mem_append_left _ (List.mem_append_left _ (List.mem_cons_of_mem _ (List.mem_cons_self ..)))
              · exact List.mem_append_left _ (List.mem_append_left _ (List.mem_cons_of_mem _ (List.mem_cons_of_mem _ (List.mem_cons_self ..))))
              · exact List.mem_append_right _ (List.mem_singleton.2 rfl)), rfl⟩
        ·
          first | (have h6 := of_decide_eq_true h6) | (have h6 := of_decide_eq_false h6) | skip
          refine J_skip ?_
          change J _ _ _ _
          refine J_seq ?_
          refine J_pk (((b0, row 91 (rboV ((D.bo.getD ((crashS D n).getD i (e0, 0)).2 bo0), qx))) :: (b1, row 82 (rkT D.room (pV H.qb H.bs.length) (.slice a (crashS D n).length c) (.slice none 0 0) false false D.left)) :: (pM 94 H.qc (chR D.ch) ++ (pM 91 H.qb (rboR H.bs) ++ (pM 91 qn (rboR bsn) ++ pM 96 qm (nmR (sfN (crashS D n) i)))))) ++ pM 5 q2 (dg (leftB (D.bo.getD ((crashS D n).getD i (e0, 0)).2 bo0) (tailK (D.bo.getD ((crashS D n).getD i (e0, 0)).2 bo0) tl i) z))) (Pk.of_sub (by rw [leftB_0 _ _ (by omega)]; exact List.Sublist.refl _)) ?_
          refine J_le (st' := { env := [(0, .pointer (some ⟨b1, 0, none⟩)), (2, .slice at_ tl.length ct), (3, .int .u8 z), (9, pV qn bsn.length), (10, pV qm i), (11, .int .i64 (i : Int)), (14, pV q2 ((D.bo.getD ((crashS D n).getD i (e0, 0)).2 bo0).2 + (tailK (D.bo.getD ((crashS D n).getD i (e0, 0)).2 bo0) tl i)))], mem := ((b1, row 82 (rkT D.room (pV H.qb H.bs.length) (.slice a (crashS D n).length c) (.slice none 0 0) false false D.left)) :: (pM 94 H.qc (chR D.ch) ++ (pM 91 H.qb (rboR H.bs) ++ (pM 91 qn (rboR bsn) ++ pM 96 qm (nmR (sfN (crashS D n) i)))))) ++ pM 5 q2 (dg (leftB (D.bo.getD ((crashS D n).getD i (e0, 0)).2 bo0) (tailK (D.bo.getD ((crashS D n).getD i (e0, 0)).2 bo0) tl i) z)), facts := [rkF D H, factC 1 (.slice at_ tl.length ct) tl.length (intV tl), nmF a c (crashS D n), allF (bsn.map rbF)] }) ⟨⟨rfl, rfl, rfl, rfl, rfl, rfl, rfl, trivial⟩, (List.Sublist.cons _ (List.Sublist.refl _)), fun f hf => hf, rfl⟩ ?_
          refine J_region ?_
          refine L_v rfl rfl rfl (V_move rfl rfl) ?_
          refine L_v rfl rfl rfl (V_move rfl rfl) ?_
          refine L_v rfl rfl rfl (V_move rfl rfl) ?_
          refine L_v rfl rfl rfl (V_len rfl rfl Tryd.underlying22 rfl) ?_
          refine L_v rfl rfl rfl (V_buildE (v := .agg ([pV q2 ((D.bo.getD ((crashS D n).getD i (e0, 0)).2 bo0).2 + (tailK (D.bo.getD ((crashS D n).getD i (e0, 0)).2 bo0) tl i)), .int .i64 ((((D.bo.getD ((crashS D n).getD i (e0, 0)).2 bo0).2 + (tailK (D.bo.getD ((crashS D n).getD i (e0, 0)).2 bo0) tl i)) : Nat) : Int)]).toArray) rfl rfl (fun w => by kernel_rfl)) ?_
          refine L_buildSlice (e := 91) (vs := [(0, .agg [pV q2 ((D.bo.getD ((crashS D n).getD i (e0, 0)).2 bo0).2 + (tailK (D.bo.getD ((crashS D n).getD i (e0, 0)).2 bo0) tl i)), .int .i64 ((((D.bo.getD ((crashS D n).getD i (e0, 0)).2 bo0).2 + (tailK (D.bo.getD ((crashS D n).getD i (e0, 0)).2 bo0) tl i)) : Nat) : Int)].toArray)]) (l := [pV q2 ((D.bo.getD ((crashS D n).getD i (e0, 0)).2 bo0).2 + (tailK (D.bo.getD ((crashS D n).getD i (e0, 0)).2 bo0) tl i)), .int .i64 ((((D.bo.getD ((crashS D n).getD i (e0, 0)).2 bo0).2 + (tailK (D.bo.getD ((crashS D n).getD i (e0, 0)).2 bo0) tl i)) : Nat) : Int)]) rfl rfl rfl rfl rfl (bsRK _ _ _) (fun b9 => ?_)
          refine L_cons rfl (S_appendP (e := 91) ((b1, row 82 (rkT D.room (pV H.qb H.bs.length) (.slice a (crashS D n).length c) (.slice none 0 0) false false D.left)) :: (pM 94 H.qc (chR D.ch) ++ pM 91 H.qb (rboR H.bs))) ((pM 96 qm (nmR (sfN (crashS D n) i)) ++ pM 5 q2 (dg (leftB (D.bo.getD ((crashS D n).getD i (e0, 0)).2 bo0) (tailK (D.bo.getD ((crashS D n).getD i (e0, 0)).2 bo0) tl i) z))) ++ [(b9, row 91 [pV q2 ((D.bo.getD ((crashS D n).getD i (e0, 0)).2 bo0).2 + (tailK (D.bo.getD ((crashS D n).getD i (e0, 0)).2 bo0) tl i)), .int .i64 ((((D.bo.getD ((crashS D n).getD i (e0, 0)).2 bo0).2 + (tailK (D.bo.getD ((crashS D n).getD i (e0, 0)).2 bo0) tl i)) : Nat) : Int)])]) qn (rboR bsn) (n := bsn.length) (m := 1) (news := [pV q2 ((D.bo.getD ((crashS D n).getD i (e0, 0)).2 bo0).2 + (tailK (D.bo.getD ((crashS D n).getD i (e0, 0)).2 bo0) tl i)), .int .i64 ((((D.bo.getD ((crashS D n).getD i (e0, 0)).2 bo0).2 + (tailK (D.bo.getD ((crashS D n).getD i (e0, 0)).2 bo0) tl i)) : Nat) : Int)]) rfl rfl rfl rfl Tryd.underlying78 elRB (by show ((_ :: (_ ++ (_ ++ (_ ++ _)))) ++ _) ++ [_] = _; simp only [List.cons_append, List.append_assoc, List.nil_append]) hqn (fun w1 hw => src_C Tryd.underlying78 (SlC.in (r := []) (fz := (0, 0)) hw (List.mem_append_right _ (List.mem_singleton.2 rfl)) rfl 1) (all_one (by kernel_rfl))) (by omega) (by omega) (fun q' hq' => ?_))
          refine L_v rfl rfl rfl (V_assign rfl rfl) ?_
          refine L_nil ?_
          change J _ _ _ _
          have hlb : (leftB (D.bo.getD ((crashS D n).getD i (e0, 0)).2 bo0) (tailK (D.bo.getD ((crashS D n).getD i (e0, 0)).2 bo0) tl i) z).length = ((D.bo.getD ((crashS D n).getD i (e0, 0)).2 bo0).2 + (tailK (D.bo.getD ((crashS D n).getD i (e0, 0)).2 bo0) tl i)) := leftB_len _ _ _ ht2
          have e8 : rboR bsn ++ [pV q2 ((D.bo.getD ((crashS D n).getD i (e0, 0)).2 bo0).2 + (tailK (D.bo.getD ((crashS D n).getD i (e0, 0)).2 bo0) tl i)), .int .i64 ((((D.bo.getD ((crashS D n).getD i (e0, 0)).2 bo0).2 + (tailK (D.bo.getD ((crashS D n).getD i (e0, 0)).2 bo0) tl i)) : Nat) : Int)] = rboR (bsn ++ [((((leftB (D.bo.getD ((crashS D n).getD i (e0, 0)).2 bo0) (tailK (D.bo.getD ((crashS D n).getD i (e0, 0)).2 bo0) tl i) z), (leftB (D.bo.getD ((crashS D n).getD i (e0, 0)).2 bo0) (tailK (D.bo.getD ((crashS D n).getD i (e0, 0)).2 bo0) tl i) z).length), (pA q2, pC q2)) : RB)]) := by rw [rboR_app, ← hlb]; rfl
          have hq2' : PC 1 q2 (leftB (D.bo.getD ((crashS D n).getD i (e0, 0)).2 bo0) (tailK (D.bo.getD ((crashS D n).getD i (e0, 0)).2 bo0) tl i) z).length (dg (leftB (D.bo.getD ((crashS D n).getD i (e0, 0)).2 bo0) (tailK (D.bo.getD ((crashS D n).getD i (e0, 0)).2 bo0) tl i) z)) := by
            rw [hlb]
            rcases q2 with _ | ⟨g2, p2, c2, r2⟩
            · have := hq2.1
              refine ⟨this, List.length_eq_zero_iff.1 (by rw [dg_length, hlb]; exact this)⟩
            · exact ⟨by rw [dg_length, hlb, Nat.mul_one], hq2.2⟩
          rw [e8] at hq'
          refine J_pk (((b1, row 82 (rkT D.room (pV H.qb H.bs.length) (.slice a (crashS D n).length c) (.slice none 0 0) false false D.left)) :: (pM 94 H.qc (chR D.ch) ++ (pM 91 H.qb (rboR H.bs) ++ (pM 91 q' (rboR (bsn ++ [((((leftB (D.bo.getD ((crashS D n).getD i (e0, 0)).2 bo0) (tailK (D.bo.getD ((crashS D n).getD i (e0, 0)).2 bo0) tl i) z), (leftB (D.bo.getD ((crashS D n).getD i (e0, 0)).2 bo0) (tailK (D.bo.getD ((crashS D n).getD i (e0, 0)).2 bo0) tl i) z).length), (pA q2, pC q2)) : RB)])) ++ pM 96 qm (nmR (sfN (crashS D n) i)))))) ++ pM 5 q2 (dg (leftB (D.bo.getD ((crashS D n).getD i (e0, 0)).2 bo0) (tailK (D.bo.getD ((crashS D n).getD i (e0, 0)).2 bo0) tl i) z))) (Pk.of_sub (by rw [← e8]; show List.Sublist ((_ :: (_ ++ (_ ++ (_ ++ _)))) ++ _) ((_ :: (_ ++ _)) ++ (_ ++ ((_ ++ _) ++ [_]))); simp only [List.cons_append, List.append_assoc, List.nil_append]; exact List.Sublist.cons_cons _ (List.Sublist.append (List.Sublist.refl _) (List.Sublist.append (List.Sublist.refl _) (List.Sublist.append (List.Sublist.refl _) (List.Sublist.append (List.Sublist.refl _) (List.sublist_append_left _ _))))))) ?_
          refine J_toFactQ (sz := 1) (n := (leftB (D.bo.getD ((crashS D n).getD i (e0, 0)).2 bo0) (tailK (D.bo.getD ((crashS D n).getD i (e0, 0)).2 bo0) tl i) z).length) ((b1, row 82 (rkT D.room (pV H.qb H.bs.length) (.slice a (crashS D n).length c) (.slice none 0 0) false false D.left)) :: (pM 94 H.qc (chR D.ch) ++ (pM 91 H.qb (rboR H.bs) ++ (pM 91 q' (rboR (bsn ++ [((((leftB (D.bo.getD ((crashS D n).getD i (e0, 0)).2 bo0) (tailK (D.bo.getD ((crashS D n).getD i (e0, 0)).2 bo0) tl i) z), (leftB (D.bo.getD ((crashS D n).getD i (e0, 0)).2 bo0) (tailK (D.bo.getD ((crashS D n).getD i (e0, 0)).2 bo0) tl i) z).length), (pA q2, pC q2)) : RB)])) ++ pM 96 qm (nmR (sfN (crashS D n) i)))))) q2 (dg (leftB (D.bo.getD ((crashS D n).getD i (e0, 0)).2 bo0) (tailK (D.bo.getD ((crashS D n).getD i (e0, 0)).2 bo0) tl i) z)) rfl hq2' (fun hnew => ?_)
          have hob' : ON [rkF D H] w.heap.size (allF ((bsn ++ [((((leftB (D.bo.getD ((crashS D n).getD i (e0, 0)).2 bo0) (tailK (D.bo.getD ((crashS D n).getD i (e0, 0)).2 bo0) tl i) z), (leftB (D.bo.getD ((crashS D n).getD i (e0, 0)).2 bo0) (tailK (D.bo.getD ((crashS D n).getD i (e0, 0)).2 bo0) tl i) z).length), (pA q2, pC q2)) : RB)]).map rbF)) := fun k hk => by
            obtain ⟨f, hf, hk⟩ := hk
            rw [List.map_append] at hf
            rcases List.mem_append.1 hf with h1 | h1
            · exact hob k ⟨f, h1, hk⟩
            · obtain rfl := List.mem_singleton.1 h1
              obtain ⟨h2, h3⟩ := hnew k (factB_C hk)
              refine .inr (h2.resolve_right fun h4 => h3 ?_)
              have h4 : k ∈ (rkM b1 D H).map (·.1) := h4
              show k ∈ (_ :: (_ ++ (_ ++ _))).map _
              rw [List.map_cons, List.map_append, List.map_append, ← List.append_assoc]
              have h5 : (rkM b1 D H).map (·.1) = b1 :: ((pM 94 H.qc (chR D.ch)).map (·.1) ++ (pM 91 H.qb (rboR H.bs)).map (·.1)) := by show b1 :: List.map _ (_ ++ _) = _; rw [List.map_append]
              rw [h5] at h4
              rcases List.mem_cons.1 h4 with h6 | h6
              · exact List.mem_cons.2 (.inl h6)
              · exact List.mem_cons_of_mem _ (List.mem_append_left _ h6)
          refine J_deriv (allF ((bsn ++ [((((leftB (D.bo.getD ((crashS D n).getD i (e0, 0)).2 bo0) (tailK (D.bo.getD ((crashS D n).getD i (e0, 0)).2 bo0) tl i) z), (leftB (D.bo.getD ((crashS D n).getD i (e0, 0)).2 bo0) (tailK (D.bo.getD ((crashS D n).getD i (e0, 0)).2 bo0) tl i) z).length), (pA q2, pC q2)) : RB)]).map rbF)) (fun w hw f hf => by
            rw [List.map_append] at hf
            rcases List.mem_append.1 hf with h1 | h1
            · exact (hw.fa 3 rfl).1 f h1
            · obtain rfl := List.mem_singleton.1 h1
              exact SlC.toB' (hw.fa 4 rfl).1) (fun k hk => by
            obtain ⟨f, hf, hk⟩ := hk
            rw [List.map_append] at hf
            rcases List.mem_append.1 hf with h1 | h1
            · exact ⟨allF (bsn.map rbF), List.mem_append_left _ (List.mem_cons_of_mem _ (List.mem_cons_of_mem _ (List.mem_cons_of_mem _ (List.mem_cons_self ..)))), f, h1, hk⟩
            · obtain rfl := List.mem_singleton.1 h1
              exact ⟨_, List.mem_append_right _ (List.mem_singleton.2 rfl), factB_C hk⟩) ?_
          refine J_region ?_
          refine L_v rfl rfl rfl (V_move rfl rfl) ?_
          refine L_v rfl rfl rfl (V_move rfl rfl) ?_
          refine L_v rfl rfl rfl (V_nilCheck rfl rfl) ?_
          refine L_v rfl rfl rfl (V_fieldAddr rfl rfl Tryd.underlying82 rfl sz79dm rfl) ?_
          refine L_v rfl rfl rfl (V_load1 0 rfl rfl rfl Tryd.underlying79 rfl (by rfl)) ?_
          refine L_v rfl rfl rfl (V_move rfl rfl) ?_
          refine L_v rfl rfl rfl (V_indexC rfl rfl rfl Tryd.underlying79 sz96dm (fun w hw => (hw.fa 2 rfl).1) (by omega) (by omega)) ?_
          refine L_v rfl rfl rfl (V_fieldC rfl rfl (fun w hw => nm_pos (hw.fa 2 rfl).1 hin2) Tryd.underlying96 rfl sz9dm rfl) ?_
          refine L_v rfl rfl rfl (V_loadC rfl rfl Tryd.underlying9 rfl (fun w hw => (hw.fa 2 rfl).1) (nmR_at hin2 0 _ rfl)) ?_
          refine L_v rfl rfl rfl (V_move rfl rfl) ?_
          refine L_v rfl rfl rfl (V_buildE (v := .agg (nmC (((crashS D n).getD i (e0, 0)).1, i)).toArray) rfl rfl (fun w => by kernel_rfl)) ?_
          refine L_buildSlice (e := 96) (vs := [(0, .agg (nmC (((crashS D n).getD i (e0, 0)).1, i)).toArray)]) (l := nmC (((crashS D n).getD i (e0, 0)).1, i)) rfl rfl rfl rfl rfl (bsN _) (fun b8 => ?_)
          refine L_cons rfl (S_appendP (e := 96) ((b1, row 82 (rkT D.room (pV H.qb H.bs.length) (.slice a (crashS D n).length c) (.slice none 0 0) false false D.left)) :: (pM 94 H.qc (chR D.ch) ++ (pM 91 H.qb (rboR H.bs) ++ pM 91 q' (rboR (bsn ++ [((((leftB (D.bo.getD ((crashS D n).getD i (e0, 0)).2 bo0) (tailK (D.bo.getD ((crashS D n).getD i (e0, 0)).2 bo0) tl i) z), (leftB (D.bo.getD ((crashS D n).getD i (e0, 0)).2 bo0) (tailK (D.bo.getD ((crashS D n).getD i (e0, 0)).2 bo0) tl i) z).length), (pA q2, pC q2)) : RB)]))))) [(b8, row 96 (nmC (((crashS D n).getD i (e0, 0)).1, i)))] qm (nmR (sfN (crashS D n) i)) (n := i) (m := 1) (news := nmC (((crashS D n).getD i (e0, 0)).1, i)) rfl rfl rfl rfl Tryd.underlying79 elN (by show (_ :: (_ ++ (_ ++ (_ ++ _)))) ++ [_] = _; simp only [List.cons_append, List.append_assoc, List.nil_append]) hqm (fun w1 hw => src_C Tryd.underlying79 (SlC.in (r := []) (fz := (0, 0)) hw (List.mem_append_right _ (List.mem_singleton.2 rfl)) rfl 1) (all_one (by kernel_rfl))) (by omega) (by omega) (fun qm' hqm' => ?_))
          refine L_v rfl rfl rfl (V_assign rfl rfl) ?_
          refine L_nil ?_
          change J _ _ _ _
          refine J_region ?_
          refine L_v rfl rfl rfl (V_move rfl rfl) ?_
          refine L_v rfl rfl rfl (V_add (r := ((i + 1 : Nat) : Int)) rfl rfl rfl (by rw [IntKind.wrap_i64]; omega)) ?_
          refine L_v rfl rfl rfl (V_assign rfl rfl) ?_
          refine L_nil ?_
          have e6 := sfN_s hin2
          have e5 : nmR (sfN (crashS D n) (i + 1)) = nmR (sfN (crashS D n) i) ++ nmC (((crashS D n).getD i (e0, 0)).1, i) := by rw [e6, nmR_app]; rfl
          rw [← e5] at hqm'
          exact ⟨(i + 1, q', bsn ++ [((((leftB (D.bo.getD ((crashS D n).getD i (e0, 0)).2 bo0) (tailK (D.bo.getD ((crashS D n).getD i (e0, 0)).2 bo0) tl i) z), (leftB (D.bo.getD ((crashS D n).getD i (e0, 0)).2 bo0) (tailK (D.bo.getD ((crashS D n).getD i (e0, 0)).2 bo0) tl i) z).length), (pA q2, pC q2)) : RB)], qm'), ⟨by show i + 1 ≤ _; omega, by show PC 2 q' (bsn ++ [_]).length _; rw [List.length_append]; exact hq', by show (bsn ++ [_]).length = i + 1; rw [List.length_append, hbl2]; rfl, rcrash_bs hbs rfl, fun y hy => (List.mem_append.1 hy).elim (hcp y) (fun h => by obtain rfl := List.mem_singleton.1 h; exact hq2'.le), hqm', hob'⟩, by show (crashS D n).length - (i + 1) < (crashS D n).length - i; omega,
            ⟨rfl, rfl, rfl, (by show _ = some (pV q' (bsn ++ [_]).length); rw [List.length_append]; rfl), rfl, rfl, trivial⟩, (by
              show List.Sublist ((b1, row 82 (rkT D.room (pV H.qb H.bs.length) (.slice a (crashS D n).length c) (.slice none 0 0) false false D.left)) :: (pM 94 H.qc (chR D.ch) ++ (pM 91 H.qb (rboR H.bs) ++ (pM 91 q' (rboR (bsn ++ [((((leftB (D.bo.getD ((crashS D n).getD i (e0, 0)).2 bo0) (tailK (D.bo.getD ((crashS D n).getD i (e0, 0)).2 bo0) tl i) z), (leftB (D.bo.getD ((crashS D n).getD i (e0, 0)).2 bo0) (tailK (D.bo.getD ((crashS D n).getD i (e0, 0)).2 bo0) tl i) z).length), (pA q2, pC q2)) : RB)])) ++ pM 96 qm' (nmR (sfN (crashS D n) (i + 1))))))) _
              rw [e5]
              show List.Sublist (_ :: (_ ++ (_ ++ (_ ++ _)))) ((_ :: (_ ++ (_ ++ _))) ++ (_ ++ [_]))
              simp only [List.cons_append, List.append_assoc, List.nil_append]
              exact List.Sublist.cons_cons _ (List.Sublist.append (List.Sublist.refl _) (List.Sublist.append (List.Sublist.refl _) (List.Sublist.append (List.Sublist.refl _) (List.sublist_append_left _ _))))), (fun f hf => by
              have hf : f ∈ [rkF D H, factC 1 (.slice at_ tl.length ct) tl.length (intV tl), nmF a c (crashS D n), allF ((bsn ++ [((((leftB (D.bo.getD ((crashS D n).getD i (e0, 0)).2 bo0) (tailK (D.bo.getD ((crashS D n).getD i (e0, 0)).2 bo0) tl i) z), (leftB (D.bo.getD ((crashS D n).getD i (e0, 0)).2 bo0) (tailK (D.bo.getD ((crashS D n).getD i (e0, 0)).2 bo0) tl i) z).length), (pA q2, pC q2)) : RB)]).map rbF)] := hf
              simp only [List.mem_cons, List.not_mem_nil, or_false] at hf
              rcases hf with rfl | rfl | rfl | rfl
              · exact List.mem_append_left _ (List.mem_append_left _ (List.mem_cons_self ..))
              · exact List.mem_append_left _ (List.mem_append_left _ (List.mem_cons_of_mem _ (List.mem_cons_self ..)))
              · exact List.mem_append_left _ (List.mem_append_left _ (List.mem_cons_of_mem _ (List.mem_cons_of_mem _ (List.mem_cons_self ..))))
              · exact List.mem_append_right _ (List.mem_singleton.2 rfl)), rfl⟩
    ·
      first | (have h3 := of_decide_eq_true h3) | (have h3 := of_decide_eq_false h3) | skip
      obtain rfl : i = (crashS D n).length := by omega
      refine J_exit ?_
      change J _ _ _ _
      refine J_seq ?_
      refine J_region ?_
      refine L_v rfl rfl rfl (V_move rfl rfl) ?_
      refine L_v rfl rfl rfl (V_move rfl rfl) ?_
      refine L_v rfl rfl rfl (V_nilCheck rfl rfl) ?_
      refine L_v rfl rfl rfl (V_fieldAddr rfl rfl Tryd.underlying82 rfl sz78dm rfl) ?_
      refine L_store1 0 (l' := rkT D.room (pV qn bsn.length) (.slice a (crashS D n).length c) (.slice none 0 0) false false D.left) rfl rfl rfl rfl rfl rfl rfl sz78dm (Nat.le_of_ble_eq_true (by kernel_rfl)) (by kernel_rfl) ?_
      refine L_nil ?_
      change J _ _ _ _
      have e4 : sfN (crashS D n) (crashS D n).length = (crashD D n tl z).sf := sfN_end _
      have e3 : (crashD D n tl z).sf.length = (crashS D n).length := by rw [← e4]; exact sfN_len (Nat.le_refl _)
      have eN : nmF (pA qm) (pC qm) (crashD D n tl z).sf = factC 2 (.slice (pA qm) (crashS D n).length (pC qm)) (crashS D n).length (nmR (sfN (crashS D n) (crashS D n).length)) := by show factC 2 (.slice _ (crashD D n tl z).sf.length _) (crashD D n tl z).sf.length (nmR (crashD D n tl z).sf) = _; rw [e3, ← e4]
      refine J_toFactQ (e := 96) (sz := 2) (n := (crashS D n).length) ((b1, row 82 (rkT D.room (pV qn bsn.length) (.slice a (crashS D n).length c) (.slice none 0 0) false false D.left)) :: (pM 94 H.qc (chR D.ch) ++ (pM 91 H.qb (rboR H.bs) ++ pM 91 qn (rboR bsn)))) qm (nmR (sfN (crashS D n) (crashS D n).length)) (by show _ :: (_ ++ (_ ++ (_ ++ _))) = (_ :: (_ ++ (_ ++ _))) ++ _; simp only [List.cons_append, List.append_assoc]) hqm (fun hnew => ?_)
      have hon9 : ON [rkF D H] w.heap.size (rkF (crashD D n tl z) (⟨qn, none, pA qm, pC qm, bsn⟩ : RkH)) := fun k hk => by
        rcases (show (nmF (pA qm) (pC qm) (crashD D n tl z).sf).fp k ∨ (allF (bsn.map rbF)).fp k from hk) with h1 | h1
        · rw [eN] at h1
          obtain ⟨h2, h3⟩ := hnew k h1
          refine .inr (h2.resolve_right fun h4 => h3 ?_)
          have h4 : k ∈ (rkM b1 D H).map (·.1) := h4
          show k ∈ (_ :: (_ ++ (_ ++ _))).map _
          rw [List.map_cons, List.map_append, List.map_append, ← List.append_assoc]
          have h5 : (rkM b1 D H).map (·.1) = b1 :: ((pM 94 H.qc (chR D.ch)).map (·.1) ++ (pM 91 H.qb (rboR H.bs)).map (·.1)) := by show b1 :: List.map _ (_ ++ _) = _; rw [List.map_append]
          rw [h5] at h4
          rcases List.mem_cons.1 h4 with h6 | h6
          · exact List.mem_cons.2 (.inl h6)
          · exact List.mem_cons_of_mem _ (List.mem_append_left _ h6)
        · exact hob k h1
      refine J_deriv (rkF (crashD D n tl z) (⟨qn, none, pA qm, pC qm, bsn⟩ : RkH)) (fun w hw => by
        show (nmF (pA qm) (pC qm) (crashD D n tl z).sf).p w ∧ _
        rw [eN]
        exact ⟨(hw.fa 4 rfl).1, (hw.fa 3 rfl).1⟩) (fun k hk => by
        rcases (show (nmF (pA qm) (pC qm) (crashD D n tl z).sf).fp k ∨ (allF (bsn.map rbF)).fp k from hk) with h1 | h1
        · rw [eN] at h1
          exact ⟨_, List.mem_append_right _ (List.mem_singleton.2 rfl), h1⟩
        · exact ⟨_, List.mem_append_left _ (List.mem_cons_of_mem _ (List.mem_cons_of_mem _ (List.mem_cons_of_mem _ (List.mem_cons_self ..)))), h1⟩) ?_
      refine J_region ?_
      refine L_v rfl rfl rfl (V_move rfl rfl) ?_
      refine L_v rfl rfl rfl (V_move rfl rfl) ?_
      refine L_v rfl rfl rfl (V_nilCheck rfl rfl) ?_
      refine L_v rfl rfl rfl (V_fieldAddr rfl rfl Tryd.underlying82 rfl sz79dm rfl) ?_
      refine L_store1 0 (l' := rkT D.room (pV qn bsn.length) (pV qm (crashS D n).length) (.slice none 0 0) false false D.left) rfl rfl rfl rfl rfl rfl rfl sz79dm (Nat.le_of_ble_eq_true (by kernel_rfl)) (by kernel_rfl) ?_
      refine L_nil ?_
      change Kret _ _ _ Exit.normal _
      refine Kret_normal ?_
      refine ret0 rfl rfl  ?_
      have e7 : rkM b1 (crashD D n tl z) (⟨qn, none, pA qm, pC qm, bsn⟩ : RkH) = (b1, row 82 (rkT D.room (pV qn bsn.length) (pV qm (crashS D n).length) (.slice none 0 0) false false D.left)) :: pM 91 qn (rboR bsn) := by
        show (b1, row _ (rkT D.room (pV qn bsn.length) (.slice (pA qm) (crashD D n tl z).sf.length (pC qm)) (.slice none 0 0) false false D.left)) :: _ = _
        rw [e3]
        rfl
      exact fun w' h => ⟨(⟨qn, none, pA qm, pC qm, bsn⟩ : RkH), rfl, ⟨⟨rfl, rfl⟩, hqn, hbs, hcp⟩, UpdG.of h rfl (by rw [e7]; exact Pk.of_sub (List.Sublist.cons_cons _ ((List.sublist_append_right _ _).trans (List.sublist_append_right _ _)))) (List.mem_append_right _ (List.mem_singleton.2 rfl)) hon9⟩

end Go.Proofs.YtcbpgnjlbbjieaaDoor
